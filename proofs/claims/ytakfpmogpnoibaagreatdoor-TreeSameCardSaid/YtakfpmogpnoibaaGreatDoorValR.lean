/- What the document says of statements that could have been read. -/
import Derived.Test.YtakfpmogpnoibaaGreatDoorNamB
import Derived.Test.YtakfpmogpnoibaaGreatDoorMachE
set_option linter.unusedVariables false
set_option linter.unusedSimpArgs false
set_option linter.constructorNameAsVariable false
section
namespace Go.Proofs.Tryz
open Go Go.AM
attribute [local simp] wpG_op wpG_nil contG_some wpG_guard guardG_v guardG_o guardG_tup gval pureOp stepG_if isPick pickG_pick pickB_b pickOK isCall step_move step_assign step_alloc step_box boxV_some step_load step_store step_binOp step_unOp step_fieldAddr faV step_indexAddr ixA_slc ixA_arr step_extract extV_tup step_nilCheck ncV_ptr ncV_rp ncV_fn ncV_mp step_build buildV step_buildSlice bsV step_index ixV_arr ixV_str step_append apB step_makeSlice msV_i step_makeFunc over step_len step_makeMap mmV step_mapUpdate step_insert muA_map muB_mp step_lookup lkA_map lkB_mp step_slice slcV_s slcV_sl slcV_ro cutB_some slObV_arr bound_none bound_some bndV_i lenB_str lenB_ro lenB_sl lenB_nil lenB_z ld_ptr ld_rp offV_ptr offV_rp idxV_ro idxV_sl unV_not unV_neg binV_int binV_str binV_eqlb binV_neqb intOp strOp St.put updL setOb St.ev toV St.lk cellsOf AM.valOf TK.agg stv fillV places TI.zero condT_true condT_false finS resL resSlot packV ren ren1 ren0 Value.cells builtinV appendV elemsOf keepT room_of wrap_in toIdx passed Function.comp_def take_len_map lenV touchOf hid tab1 tab2 tab3 tab4 tab5 tab6 tab7 tab8 tab9 tab20 tab22 tab23 tab24 tab26 tab32 tab33 tab35 tab36 tab37 tab39 tab41 tab42 tab43 tab45 tab46 tab47 tab49 tab50 tab52 tab57 tab58 tab60 tab63 tab65 tab66 tab68 tab70 tab74 tab79 tab83 tab86 tab87 tab89 tab92 tab100 tab101 tab102 tab103 tab105 tab107 tab108 tab113 tab114 tab116 tab117 tab118 tab122 tab123 tab125 tab127 tab130 tab132 tab136 tab138 tab139 tab141 tab142 tab144 tab146 tab148 tab173 tab175 tab178 tab179 tab180 tab182 tab189 tab215 tab219 tab220 tab224 tab225 tab241 tab244 tab247 tab253 tab261 tab262 tab265 tab266 armC_eq blockC_eq bodyC_eq enumC_eq fieldC_eq fnC_eq inC_eq localC_eq mirBodyC_eq operC_eq placeC_eq rvC_eq sourceC_eq spotC_eq stepC_eq stmtC_eq structC_eq tmC_eq tyC_eq useC_eq valueC_eq variantC_eq binV_eqls binV_neqs cutL_nil cutL_junk cutL_cons ren_arr ren_gone ren_unborn ren_var ren_row step_convert cvV_i cvV_sl cvV_s cvK_slc cvE_u8 bytesOf bor1 bor2 bor3 bor4
set_option linter.unusedSimpArgs false
set_option linter.unusedVariables false
set_option maxRecDepth 10000
set_option maxHeartbeats 4000000
noncomputable section
def rValidBlock_b_l4 (r_rValidStmt : StmtD → Int → Bool) (p1 : Int) : List StmtD → Ctl (Bool) (Unit)
 | [] => .go ()
 | x4 :: xs4 => (if ¬ ((r_rValidStmt x4 p1) = true) then .ret false else rValidBlock_b_l4 r_rValidStmt p1 xs4)
def rValidBlock_b (r_rValidBlock : (List StmtD) → Int → Bool) (r_rValidStmt : StmtD → Int → Bool) (p0 : List StmtD) (p1 : Int) : Bool :=
 (if 60 < p1 then false else (Ctl.run (rValidBlock_b_l4 r_rValidStmt p1 p0) fun (v4 : Unit) => true))
set_option maxHeartbeats 40000000 in
theorem w_rValidBlock_b (r_rValidBlock : (List StmtD) → Int → Bool) (r_rValidStmt : StmtD → Int → Bool) (p0 : List StmtD) (p1 : Int)  (D : Nat) (H_rValidBlock : ∀ (u0 : List StmtD) (u1 : Int), SizeOf.sizeOf u0 < D → QC prog 43 [.ro 21 (u0.map stmtC), .i .i64 u1] [] (.b (r_rValidBlock u0 u1)) []) (H_rValidStmt : ∀ (u0 : StmtD) (u1 : Int), SizeOf.sizeOf u0 < D → QC prog 105 [.agg [.i .i64 u0.k, .i .i64 u0.at_, .s u0.name, .i .i64 u0.ty.k, .s u0.ty.name, .ro 3 (u0.ty.l.map tyC), .s u0.p.name, .ro 1 (u0.p.path.map stepC), .i .i64 u0.rv.k, .ro 4 (u0.rv.ops.map operC), .s u0.rv.p.name, .ro 1 (u0.rv.p.path.map stepC), .s u0.rv.name, .s u0.rv.variant, .b u0.op.num, .i .i64 u0.op.n, .s u0.op.p.name, .ro 1 (u0.op.p.path.map stepC), .ro 21 (u0.then_.map stmtC), .ro 21 (u0.else_.map stmtC), .ro 3 (u0.arms.map armC)], .i .i64 u1] [] (.b (r_rValidStmt u0 u1)) []) (hD : SizeOf.sizeOf p0 ≤ D) : QC prog 43 [.ro 21 (p0.map stmtC), .i .i64 p1] [] (.b (rValidBlock_b r_rValidBlock r_rValidStmt p0 p1)) [] := by
 refine QC.of_body tabOK func43 rfl (by kernel_rfl) ?_
 simp only [f43]
 generalize e : rValidBlock_b r_rValidBlock r_rValidStmt p0 p1 = R
 unfold rValidBlock_b at e
 refine EV.seq (EV.regionG tabOK ?_)
 simp (maxSteps := 2000000) -implicitDefEqProofs
 refine EV.seq (EV.seq (EV.regionG tabOK ?_))
 simp (maxSteps := 2000000) -implicitDefEqProofs
 refine EV.condT ?_
 simp -implicitDefEqProofs
 refine condT_intro (fun k1 => ?_) (fun k1 => ?_)
 ·try simp at k1
  obtain ⟨f1, e⟩ := pos_on2 e (by first | simpa using k1 | grind)
  try simp at f1
  refine EV.seq (EV.regionG tabOK ?_)
  simp (maxSteps := 2000000) -implicitDefEqProofs
  refine EV.ret ?_
  simp only [thenK_ret, blockK_ret, scopeK_ret, bodyK_ret]
  subst e
  refine Fin.pure0 ?_
  first | (simp; done) | (simp <;> grind)
 try simp at k1
 obtain ⟨f1, e⟩ := neg_on2 e (by first | simpa using k1 | grind)
 try simp at f1
 refine EV.skip ?_
 simp only [thenK_normal, blockK_normal, scopeK_normal]
 refine EV.seq (EV.seq (EV.regionG tabOK ?_))
 simp (maxSteps := 2000000) -implicitDefEqProofs
 obtain ⟨z4, e4, e⟩ := run_split e
 refine EV.nrm (fun v : { v : (Unit) × (Unit) // z4 = .go v.1 } => (fun (v4 : Unit) (g4 : Unit) => (⟨[J, J, J, J, J, J, J, J, J, J, J, J, J, J, J, J, J, J, J, J, J, J, J], []⟩ : St)) v.1.1 v.1.2) ?_ ?_
 ·skip
  refine EV.block ?_
  refine EV.loopB (fun x : { x : Nat // x ≤ p0.length ∧ rValidBlock_b_l4 r_rValidStmt p1 (p0.drop x) = z4 } => (fun (j4 : Nat) => (⟨[.ro 21 (p0.map stmtC), .i .i64 p1, J, J, J, .i .i64 (j4 : Int), J, J, J, J, J, J, J, J, J, J, J, J, J, J, J, J, J], []⟩ : St)) x.1) (fun x => p0.length - x.1) ⟨0, Nat.zero_le _, e4⟩ ?_ ?_
  ·skip
   try dsimp only
   try dsimp only
   refine Sub.cutF 0 (by simp) ?_ ?_ <;> simp [List.range_succ, toIdx_range, passed]
  rintro ⟨j4, hi4, e4⟩
  simp only at hi4 e4 ⊢
  refine EV.seq (EV.seq (EV.regionG tabOK ?_))
  simp (maxSteps := 2000000) -implicitDefEqProofs
  refine EV.room 0 (by rfl) (fun mj4 => ?_)
  simp at mj4
  refine EV.condT ?_
  simp -implicitDefEqProofs
  refine condT_intro (fun k2 => ?_) (fun k2 => ?_)
  ·try simp at k2
   have u2 : j4 < p0.length := by omega
   obtain ⟨x4, hx4⟩ : ∃ z, p0[j4] = z := ⟨_, rfl⟩
   have mx4 : x4 ∈ p0 := by rw [← hx4]; exact List.getElem_mem _
   have zzx4 := List.sizeOf_lt_of_mem mx4
   rw [List.drop_eq_getElem_cons u2, hx4, rValidBlock_b_l4] at e4
   refine EV.skip ?_
   simp only [thenK_normal, blockK_normal, scopeK_normal]
   refine EV.seq (EV.block (EV.seq (EV.regionG tabOK ?_)))
   simp (maxSteps := 2000000) -implicitDefEqProofs [k2, u2, hx4]
   refine callG_fun (H_rValidStmt x4 p1 (by first | omega | (simp at *; omega))) ?_ ?_
   ·first | (simp; done) | (simp [k2, u2, hx4]; done)
   simp (maxSteps := 2000000) -implicitDefEqProofs [k2, u2, hx4]
   refine EV.seq (EV.regionG tabOK ?_)
   simp (maxSteps := 2000000) -implicitDefEqProofs [k2, u2, hx4]
   refine EV.condT ?_
   simp -implicitDefEqProofs [k2, u2, hx4]
   refine condT_intro (fun k3 => ?_) (fun k3 => ?_)
   ·try simp at k3
    obtain ⟨f3, e4⟩ := pos_on2 e4 (by first | simpa using k3 | grind)
    try simp at f3
    refine EV.seq (EV.regionG tabOK ?_)
    simp (maxSteps := 2000000) -implicitDefEqProofs [k2, u2, hx4]
    refine EV.ret ?_
    simp only [thenK_ret, blockK_ret, scopeK_ret, bodyK_ret]
    replace e := run_back e e4
    subst e
    refine Fin.pure0 ?_
    first | (simp; done) | (simp <;> grind)
   try simp at k3
   obtain ⟨f3, e4⟩ := neg_on2 e4 (by first | simpa using k3 | grind)
   try simp at f3
   refine EV.skip ?_
   simp only [thenK_normal, blockK_normal, scopeK_normal]
   refine EV.regionG tabOK ?_
   simp (maxSteps := 2000000) -implicitDefEqProofs [k2, u2, hx4]
   have w4 : IntKind.i64.wrap ((j4 : Int) + 1) = (j4 : Int) + 1 := wrap_in _ (by omega) (by omega)
   refine ⟨⟨j4 + 1, by omega, e4⟩, by dsimp only; omega, ?_⟩
   try dsimp only
   refine Sub.cutF 0 (by simp) ?_ ?_ <;> simp [List.range_succ, toIdx_range, passed, k2, u2, hx4, w4]
  try simp at k2
  have d2 : p0.drop j4 = [] := List.drop_eq_nil_of_le (by omega)
  rw [d2, rValidBlock_b_l4] at e4
  refine EV.exit ?_
  simp -implicitDefEqProofs
  refine ⟨⟨((), ()), e4.symm⟩, ?_⟩
  try dsimp only
  refine Sub.cutF 0 (by simp) ?_ ?_ <;> simp [List.range_succ, toIdx_range, passed]
 rintro ⟨⟨v4, g4⟩, e4⟩
 simp only [thenK_normal, blockK_normal, scopeK_normal, bodyK_normal]
 replace e := run_on e e4
 try dsimp only at e
 refine EV.seq (EV.regionG tabOK ?_)
 simp (maxSteps := 2000000) -implicitDefEqProofs
 refine EV.ret ?_
 simp only [thenK_ret, blockK_ret, scopeK_ret, bodyK_ret]
 subst e
 refine Fin.pure0 ?_
 first | (simp; done) | (simp <;> grind)

def rValidStmt_b_l21 (r_rValidBlock : (List StmtD) → Int → Bool) (p1 : Int) : List ArmD → Ctl (Bool) (Unit)
 | [] => .go ()
 | x21 :: xs21 => (if ((¬ ((rGreat x21.variant) = true)) ∨ ((¬ (x21.bind = ([] : List UInt8))) ∧ (¬ ((rSmall x21.bind) = true)))) ∨ (¬ ((r_rValidBlock x21.body (IntKind.i64.wrap (p1 + 1))) = true)) then .ret false else rValidStmt_b_l21 r_rValidBlock p1 xs21)
def rValidStmt_b (r_rValidBlock : (List StmtD) → Int → Bool) (r_rValidStmt : StmtD → Int → Bool) (p0 : StmtD) (p1 : Int) : Bool :=
 (if p0.k = 0 then ((((((((rSmall p0.name) && (rValidTy p0.ty 0)) && (rValidRv p0.rv)) && (rNoPlace p0.p)) && (rNoOper p0.op)) && (decide ((p0.then_.length : Int) = 0))) && (decide ((p0.else_.length : Int) = 0))) && (decide ((p0.arms.length : Int) = 0))) else (if p0.k = 1 then ((((((((decide (p0.name = ([] : List UInt8))) && (rNoTy p0.ty)) && (rValidPlace p0.p false)) && (rValidRv p0.rv)) && (rNoOper p0.op)) && (decide ((p0.then_.length : Int) = 0))) && (decide ((p0.else_.length : Int) = 0))) && (decide ((p0.arms.length : Int) = 0))) else (if p0.k = 2 then ((((((((decide (p0.name = ([] : List UInt8))) && (rNoTy p0.ty)) && (rNoPlace p0.p)) && (rNoRv p0.rv)) && (rValidOper p0.op)) && (r_rValidBlock p0.then_ (IntKind.i64.wrap (p1 + 1)))) && (r_rValidBlock p0.else_ (IntKind.i64.wrap (p1 + 1)))) && (decide ((p0.arms.length : Int) = 0))) else (if p0.k = 3 then ((((((((decide (p0.name = ([] : List UInt8))) && (rNoTy p0.ty)) && (rNoPlace p0.p)) && (rNoRv p0.rv)) && (rValidOper p0.op)) && (r_rValidBlock p0.then_ (IntKind.i64.wrap (p1 + 1)))) && (decide ((p0.else_.length : Int) = 0))) && (decide ((p0.arms.length : Int) = 0))) else (if p0.k = 4 then (if (((((¬ ((p0.name = ([] : List UInt8)) ∧ ((rNoTy p0.ty) = true))) ∨ (¬ ((rValidPlace p0.p true) = true))) ∨ (¬ ((rNoRv p0.rv) = true))) ∨ (¬ ((rNoOper p0.op) = true))) ∨ (¬ ((p0.then_.length : Int) = 0))) ∨ (¬ ((p0.else_.length : Int) = 0)) then false else (Ctl.run (rValidStmt_b_l21 r_rValidBlock p1 p0.arms) fun (v21 : Unit) => true)) else (bnd (if p0.k = 5 then true else (if p0.k = 6 then true else (decide (p0.k = 7)))) fun (v28 : Bool) => (if v28 = true then ((((((((decide (p0.name = ([] : List UInt8))) && (rNoTy p0.ty)) && (rNoPlace p0.p)) && (rNoRv p0.rv)) && (rValidOper p0.op)) && (decide ((p0.then_.length : Int) = 0))) && (decide ((p0.else_.length : Int) = 0))) && (decide ((p0.arms.length : Int) = 0))) else (if p0.k = 8 then ((((((((decide (p0.name = ([] : List UInt8))) && (rNoTy p0.ty)) && (rValidPlace p0.p true)) && (rNoRv p0.rv)) && (rNoOper p0.op)) && (decide ((p0.then_.length : Int) = 0))) && (decide ((p0.else_.length : Int) = 0))) && (decide ((p0.arms.length : Int) = 0))) else false))))))))
set_option maxHeartbeats 40000000 in
theorem w_rValidStmt_b (r_rValidBlock : (List StmtD) → Int → Bool) (r_rValidStmt : StmtD → Int → Bool) (p0 : StmtD) (p1 : Int)  (D : Nat) (H_rValidBlock : ∀ (u0 : List StmtD) (u1 : Int), SizeOf.sizeOf u0 < D → QC prog 43 [.ro 21 (u0.map stmtC), .i .i64 u1] [] (.b (r_rValidBlock u0 u1)) []) (H_rValidStmt : ∀ (u0 : StmtD) (u1 : Int), SizeOf.sizeOf u0 < D → QC prog 105 [.agg [.i .i64 u0.k, .i .i64 u0.at_, .s u0.name, .i .i64 u0.ty.k, .s u0.ty.name, .ro 3 (u0.ty.l.map tyC), .s u0.p.name, .ro 1 (u0.p.path.map stepC), .i .i64 u0.rv.k, .ro 4 (u0.rv.ops.map operC), .s u0.rv.p.name, .ro 1 (u0.rv.p.path.map stepC), .s u0.rv.name, .s u0.rv.variant, .b u0.op.num, .i .i64 u0.op.n, .s u0.op.p.name, .ro 1 (u0.op.p.path.map stepC), .ro 21 (u0.then_.map stmtC), .ro 21 (u0.else_.map stmtC), .ro 3 (u0.arms.map armC)], .i .i64 u1] [] (.b (r_rValidStmt u0 u1)) []) (hD : SizeOf.sizeOf p0 ≤ D) : QC prog 105 [.agg [.i .i64 p0.k, .i .i64 p0.at_, .s p0.name, .i .i64 p0.ty.k, .s p0.ty.name, .ro 3 (p0.ty.l.map tyC), .s p0.p.name, .ro 1 (p0.p.path.map stepC), .i .i64 p0.rv.k, .ro 4 (p0.rv.ops.map operC), .s p0.rv.p.name, .ro 1 (p0.rv.p.path.map stepC), .s p0.rv.name, .s p0.rv.variant, .b p0.op.num, .i .i64 p0.op.n, .s p0.op.p.name, .ro 1 (p0.op.p.path.map stepC), .ro 21 (p0.then_.map stmtC), .ro 21 (p0.else_.map stmtC), .ro 3 (p0.arms.map armC)], .i .i64 p1] [] (.b (rValidStmt_b r_rValidBlock r_rValidStmt p0 p1)) [] := by
 refine QC.of_body tabOK func105 rfl (by kernel_rfl) ?_
 simp only [f105]
 generalize e : rValidStmt_b r_rValidBlock r_rValidStmt p0 p1 = R
 unfold rValidStmt_b at e
 refine EV.seq (EV.regionG tabOK ?_)
 simp (maxSteps := 2000000) -implicitDefEqProofs
 refine EV.seq ?_
 refine EV.nrm (fun _ : Unit => (⟨[J, .i .i64 p1, .ptr 0 0 0 0, J, J, .b ((decide (p0.name = ([] : List UInt8))) && (rNoTy p0.ty)), J, J, J, J, J, J, J, J, J, J, J, J, J, J, J, J, J, J, J, J, J, J, J, J, J, J, J, J, J, J, J, J, J, J, J, J, J, J, J, J, J, J, J, J, J, J, J, J, J, J, J, J, J, J, J, J, J, J, J, J, J, J, J, J, J, J, J, J, J, J, J, J, J, J, J, J, J, J, J, J, J, J, J, J, J, J, J, J, J, J, J, J, J, J, J, J, J, J, J, J, J, J, J, J, J, J, J, J, J, J, J, J, J, J, J, J, J, J, J, J, J, J, J, J, J, J, J, J, J, J, J, J, J, J, J, J, J, J, J, J, J, J, J, J, J, J, J, J, J, J, J, J, J, J, J, J, J, J, J, J, J, J, J, J, J, J, J, J, J, J, J, J, J, J, J, J, J, J, J, J, J, J, J, J, J, J, J, J, J, J, J, J, J, J, J, J, J, J, J, J, J, J, J, J, J, J, J, J, J, J, J, J, J, J, J, J, J, J, J, J, J, J, J, J, J, J, J, J, J, J, J, J, J, J, J, J, J, J, J, J, J, J, J, J, J, J, J, J, J, J, J, J, J, J, J, J, J, J, J, J, J], [.arr 0 21 [[.i .i64 p0.k, .i .i64 p0.at_, .s p0.name, .i .i64 p0.ty.k, .s p0.ty.name, .ro 3 (p0.ty.l.map tyC), .s p0.p.name, .ro 1 (p0.p.path.map stepC), .i .i64 p0.rv.k, .ro 4 (p0.rv.ops.map operC), .s p0.rv.p.name, .ro 1 (p0.rv.p.path.map stepC), .s p0.rv.name, .s p0.rv.variant, .b p0.op.num, .i .i64 p0.op.n, .s p0.op.p.name, .ro 1 (p0.op.p.path.map stepC), .ro 21 (p0.then_.map stmtC), .ro 21 (p0.else_.map stmtC), .ro 3 (p0.arms.map armC)]]]⟩ : St)) ?_ ?_
 ·skip
  by_cases k2 : p0.name = ([] : List UInt8)
  ·as_aux_lemma =>
   have kk2 := k2
   try simp at kk2
   refine EV.regionG tabOK ?_
   simp (maxSteps := 2000000) -implicitDefEqProofs +contextual [k2, kk2]
   refine callG_fun (w_rNoTy p0.ty) ?_ ?_
   ·first | (simp; done) | (simp [k2, kk2]; done)
   simp (maxSteps := 2000000) -implicitDefEqProofs +contextual [k2, kk2]
   refine ⟨(), ?_⟩
   try dsimp only
   refine Sub.cutF 1 (by simp) ?_ ?_ <;> simp [List.range_succ, toIdx_range, passed, k2, kk2]
  ·as_aux_lemma =>
   have kk2 := k2
   try simp at kk2
   refine EV.regionG tabOK ?_
   simp (maxSteps := 2000000) -implicitDefEqProofs +contextual [k2, kk2]
   refine ⟨(), ?_⟩
   try dsimp only
   refine Sub.cutF 1 (by simp) ?_ ?_ <;> simp [List.range_succ, toIdx_range, passed, k2, kk2]
 rintro _
 simp only [thenK_normal, blockK_normal, scopeK_normal, bodyK_normal]
 refine EV.seq (EV.regionG tabOK ?_)
 simp (maxSteps := 2000000) -implicitDefEqProofs
 refine callG_fun (w_rNoPlace p0.p) ?_ ?_
 ·simp
 simp (maxSteps := 2000000) -implicitDefEqProofs
 refine EV.seq (EV.regionG tabOK ?_)
 simp (maxSteps := 2000000) -implicitDefEqProofs
 refine callG_fun (w_rNoRv p0.rv) ?_ ?_
 ·simp
 simp (maxSteps := 2000000) -implicitDefEqProofs
 refine EV.seq (EV.regionG tabOK ?_)
 simp (maxSteps := 2000000) -implicitDefEqProofs
 refine callG_fun (w_rNoOper p0.op) ?_ ?_
 ·simp
 simp (maxSteps := 2000000) -implicitDefEqProofs
 refine EV.seq (EV.regionG tabOK ?_)
 simp (maxSteps := 2000000) -implicitDefEqProofs
 refine EV.seq (EV.regionG tabOK ?_)
 simp (maxSteps := 2000000) -implicitDefEqProofs
 refine EV.seq (EV.regionG tabOK ?_)
 simp (maxSteps := 2000000) -implicitDefEqProofs
 refine EV.seq (EV.seq (EV.regionG tabOK ?_))
 simp (maxSteps := 2000000) -implicitDefEqProofs
 refine EV.block (EV.seq (EV.regionG tabOK ?_))
 simp (maxSteps := 2000000) -implicitDefEqProofs
 refine EV.condT ?_
 simp -implicitDefEqProofs
 refine condT_intro (fun k3 => ?_) (fun k3 => ?_)
 ·as_aux_lemma =>
  try simp at k3
  obtain ⟨f3, e⟩ := pos_on2 e (by first | simpa using k3 | grind)
  try simp at f3
  refine EV.seq (EV.regionG tabOK ?_)
  simp (maxSteps := 2000000) -implicitDefEqProofs [-guardG_v, guardG_bt, guardG_bf]
  refine callG_fun (w_rSmall p0.name) ?_ ?_
  ·first | (simp; done) | (simp [-guardG_v, guardG_bt, guardG_bf]; done)
  simp (maxSteps := 2000000) -implicitDefEqProofs [-guardG_v, guardG_bt, guardG_bf]
  cases k4 : (rSmall p0.name)
  ·skip
   have kk4 := k4
   try simp at kk4
   simp (maxSteps := 2000000) -implicitDefEqProofs [-guardG_v, guardG_bt, guardG_bf, k4, kk4]
   refine EV.ret ?_
   simp only [thenK_ret, blockK_ret, scopeK_ret, bodyK_ret]
   subst e
   refine Fin.pure0 ?_
   first | (simp; done) | (simp [k4, kk4]; done) | (simp <;> grind)
  have kk4 := k4
  try simp at kk4
  simp (maxSteps := 2000000) -implicitDefEqProofs [-guardG_v, guardG_bt, guardG_bf, k4, kk4]
  refine callG_fun (w_rValidTy p0.ty 0) ?_ ?_
  ·first | (simp; done) | (simp [-guardG_v, guardG_bt, guardG_bf, k4, kk4]; done)
  simp (maxSteps := 2000000) -implicitDefEqProofs [-guardG_v, guardG_bt, guardG_bf, k4, kk4]
  cases k5 : (rValidTy p0.ty 0)
  ·skip
   have kk5 := k5
   try simp at kk5
   simp (maxSteps := 2000000) -implicitDefEqProofs [-guardG_v, guardG_bt, guardG_bf, k4, kk4, k5, kk5]
   refine EV.ret ?_
   simp only [thenK_ret, blockK_ret, scopeK_ret, bodyK_ret]
   subst e
   refine Fin.pure0 ?_
   first | (simp; done) | (simp [k4, kk4, k5, kk5]; done) | (simp <;> grind)
  have kk5 := k5
  try simp at kk5
  simp (maxSteps := 2000000) -implicitDefEqProofs [-guardG_v, guardG_bt, guardG_bf, k4, kk4, k5, kk5]
  refine callG_fun (w_rValidRv p0.rv) ?_ ?_
  ·first | (simp; done) | (simp [-guardG_v, guardG_bt, guardG_bf, k4, kk4, k5, kk5]; done)
  simp (maxSteps := 2000000) -implicitDefEqProofs [-guardG_v, guardG_bt, guardG_bf, k4, kk4, k5, kk5]
  cases k6 : (rValidRv p0.rv)
  ·skip
   have kk6 := k6
   try simp at kk6
   simp (maxSteps := 2000000) -implicitDefEqProofs [-guardG_v, guardG_bt, guardG_bf, k4, kk4, k5, kk5, k6, kk6]
   refine EV.ret ?_
   simp only [thenK_ret, blockK_ret, scopeK_ret, bodyK_ret]
   subst e
   refine Fin.pure0 ?_
   first | (simp; done) | (simp [k4, kk4, k5, kk5, k6, kk6]; done) | (simp <;> grind)
  have kk6 := k6
  try simp at kk6
  simp (maxSteps := 2000000) -implicitDefEqProofs [-guardG_v, guardG_bt, guardG_bf, k4, kk4, k5, kk5, k6, kk6]
  cases k7 : (rNoPlace p0.p)
  ·skip
   have kk7 := k7
   try simp at kk7
   simp (maxSteps := 2000000) -implicitDefEqProofs [-guardG_v, guardG_bt, guardG_bf, k4, kk4, k5, kk5, k6, kk6, k7, kk7]
   refine EV.ret ?_
   simp only [thenK_ret, blockK_ret, scopeK_ret, bodyK_ret]
   subst e
   refine Fin.pure0 ?_
   first | (simp; done) | (simp [k4, kk4, k5, kk5, k6, kk6, k7, kk7]; done) | (simp <;> grind)
  have kk7 := k7
  try simp at kk7
  simp (maxSteps := 2000000) -implicitDefEqProofs [-guardG_v, guardG_bt, guardG_bf, k4, kk4, k5, kk5, k6, kk6, k7, kk7]
  cases k8 : (rNoOper p0.op)
  ·skip
   have kk8 := k8
   try simp at kk8
   simp (maxSteps := 2000000) -implicitDefEqProofs [-guardG_v, guardG_bt, guardG_bf, k4, kk4, k5, kk5, k6, kk6, k7, kk7, k8, kk8]
   refine EV.ret ?_
   simp only [thenK_ret, blockK_ret, scopeK_ret, bodyK_ret]
   subst e
   refine Fin.pure0 ?_
   first | (simp; done) | (simp [k4, kk4, k5, kk5, k6, kk6, k7, kk7, k8, kk8]; done) | (simp <;> grind)
  have kk8 := k8
  try simp at kk8
  simp (maxSteps := 2000000) -implicitDefEqProofs [-guardG_v, guardG_bt, guardG_bf, k4, kk4, k5, kk5, k6, kk6, k7, kk7, k8, kk8]
  by_cases k9 : (p0.then_.length : Int) = 0
  ·skip
   have kk9 := k9
   try simp at kk9
   simp (maxSteps := 2000000) -implicitDefEqProofs [-guardG_v, guardG_bt, guardG_bf, k4, kk4, k5, kk5, k6, kk6, k7, kk7, k8, kk8, k9, kk9]
   by_cases k10 : (p0.else_.length : Int) = 0
   ·skip
    have kk10 := k10
    try simp at kk10
    simp (maxSteps := 2000000) -implicitDefEqProofs [-guardG_v, guardG_bt, guardG_bf, k4, kk4, k5, kk5, k6, kk6, k7, kk7, k8, kk8, k9, kk9, k10, kk10]
    refine EV.ret ?_
    simp only [thenK_ret, blockK_ret, scopeK_ret, bodyK_ret]
    subst e
    refine Fin.pure0 ?_
    first | (simp; done) | (simp [k4, kk4, k5, kk5, k6, kk6, k7, kk7, k8, kk8, k9, kk9, k10, kk10]; done) | (simp <;> grind)
   have kk10 := k10
   try simp at kk10
   simp (maxSteps := 2000000) -implicitDefEqProofs [-guardG_v, guardG_bt, guardG_bf, k4, kk4, k5, kk5, k6, kk6, k7, kk7, k8, kk8, k9, kk9, k10, kk10]
   refine EV.ret ?_
   simp only [thenK_ret, blockK_ret, scopeK_ret, bodyK_ret]
   subst e
   refine Fin.pure0 ?_
   first | (simp; done) | (simp [k4, kk4, k5, kk5, k6, kk6, k7, kk7, k8, kk8, k9, kk9, k10, kk10]; done) | (simp <;> grind)
  have kk9 := k9
  try simp at kk9
  simp (maxSteps := 2000000) -implicitDefEqProofs [-guardG_v, guardG_bt, guardG_bf, k4, kk4, k5, kk5, k6, kk6, k7, kk7, k8, kk8, k9, kk9]
  refine EV.ret ?_
  simp only [thenK_ret, blockK_ret, scopeK_ret, bodyK_ret]
  subst e
  refine Fin.pure0 ?_
  first | (simp; done) | (simp [k4, kk4, k5, kk5, k6, kk6, k7, kk7, k8, kk8, k9, kk9]; done) | (simp <;> grind)
 ·as_aux_lemma =>
  try simp at k3
  obtain ⟨f3, e⟩ := neg_on2 e (by first | simpa using k3 | grind)
  try simp at f3
  refine EV.seq (EV.regionG tabOK ?_)
  simp (maxSteps := 2000000) -implicitDefEqProofs
  refine EV.condT ?_
  simp -implicitDefEqProofs
  refine condT_intro (fun k11 => ?_) (fun k11 => ?_)
  ·as_aux_lemma =>
   try simp at k11
   obtain ⟨f11, e⟩ := pos_on2 e (by first | simpa using k11 | grind)
   try simp at f11
   refine EV.seq (EV.regionG tabOK ?_)
   simp (maxSteps := 2000000) -implicitDefEqProofs [-guardG_v, guardG_bt, guardG_bf]
   by_cases k12 : p0.name = ([] : List UInt8)
   ·skip
    have kk12 := k12
    try simp at kk12
    simp (maxSteps := 2000000) -implicitDefEqProofs [-guardG_v, guardG_bt, guardG_bf, k12, kk12]
    cases k13 : (rNoTy p0.ty)
    ·skip
     have kk13 := k13
     try simp at kk13
     simp (maxSteps := 2000000) -implicitDefEqProofs [-guardG_v, guardG_bt, guardG_bf, k12, kk12, k13, kk13]
     refine EV.ret ?_
     simp only [thenK_ret, blockK_ret, scopeK_ret, bodyK_ret]
     subst e
     refine Fin.pure0 ?_
     first | (simp; done) | (simp [k12, kk12, k13, kk13]; done) | (simp <;> grind)
    have kk13 := k13
    try simp at kk13
    simp (maxSteps := 2000000) -implicitDefEqProofs [-guardG_v, guardG_bt, guardG_bf, k12, kk12, k13, kk13]
    refine callG_fun (w_rValidPlace p0.p false) ?_ ?_
    ·first | (simp; done) | (simp [-guardG_v, guardG_bt, guardG_bf, k12, kk12, k13, kk13]; done)
    simp (maxSteps := 2000000) -implicitDefEqProofs [-guardG_v, guardG_bt, guardG_bf, k12, kk12, k13, kk13]
    cases k14 : (rValidPlace p0.p false)
    ·skip
     have kk14 := k14
     try simp at kk14
     simp (maxSteps := 2000000) -implicitDefEqProofs [-guardG_v, guardG_bt, guardG_bf, k12, kk12, k13, kk13, k14, kk14]
     refine EV.ret ?_
     simp only [thenK_ret, blockK_ret, scopeK_ret, bodyK_ret]
     subst e
     refine Fin.pure0 ?_
     first | (simp; done) | (simp [k12, kk12, k13, kk13, k14, kk14]; done) | (simp <;> grind)
    have kk14 := k14
    try simp at kk14
    simp (maxSteps := 2000000) -implicitDefEqProofs [-guardG_v, guardG_bt, guardG_bf, k12, kk12, k13, kk13, k14, kk14]
    refine callG_fun (w_rValidRv p0.rv) ?_ ?_
    ·first | (simp; done) | (simp [-guardG_v, guardG_bt, guardG_bf, k12, kk12, k13, kk13, k14, kk14]; done)
    simp (maxSteps := 2000000) -implicitDefEqProofs [-guardG_v, guardG_bt, guardG_bf, k12, kk12, k13, kk13, k14, kk14]
    cases k15 : (rValidRv p0.rv)
    ·skip
     have kk15 := k15
     try simp at kk15
     simp (maxSteps := 2000000) -implicitDefEqProofs [-guardG_v, guardG_bt, guardG_bf, k12, kk12, k13, kk13, k14, kk14, k15, kk15]
     refine EV.ret ?_
     simp only [thenK_ret, blockK_ret, scopeK_ret, bodyK_ret]
     subst e
     refine Fin.pure0 ?_
     first | (simp; done) | (simp [k12, kk12, k13, kk13, k14, kk14, k15, kk15]; done) | (simp <;> grind)
    have kk15 := k15
    try simp at kk15
    simp (maxSteps := 2000000) -implicitDefEqProofs [-guardG_v, guardG_bt, guardG_bf, k12, kk12, k13, kk13, k14, kk14, k15, kk15]
    cases k16 : (rNoOper p0.op)
    ·skip
     have kk16 := k16
     try simp at kk16
     simp (maxSteps := 2000000) -implicitDefEqProofs [-guardG_v, guardG_bt, guardG_bf, k12, kk12, k13, kk13, k14, kk14, k15, kk15, k16, kk16]
     refine EV.ret ?_
     simp only [thenK_ret, blockK_ret, scopeK_ret, bodyK_ret]
     subst e
     refine Fin.pure0 ?_
     first | (simp; done) | (simp [k12, kk12, k13, kk13, k14, kk14, k15, kk15, k16, kk16]; done) | (simp <;> grind)
    have kk16 := k16
    try simp at kk16
    simp (maxSteps := 2000000) -implicitDefEqProofs [-guardG_v, guardG_bt, guardG_bf, k12, kk12, k13, kk13, k14, kk14, k15, kk15, k16, kk16]
    by_cases k17 : (p0.then_.length : Int) = 0
    ·skip
     have kk17 := k17
     try simp at kk17
     simp (maxSteps := 2000000) -implicitDefEqProofs [-guardG_v, guardG_bt, guardG_bf, k12, kk12, k13, kk13, k14, kk14, k15, kk15, k16, kk16, k17, kk17]
     by_cases k18 : (p0.else_.length : Int) = 0
     ·skip
      have kk18 := k18
      try simp at kk18
      simp (maxSteps := 2000000) -implicitDefEqProofs [-guardG_v, guardG_bt, guardG_bf, k12, kk12, k13, kk13, k14, kk14, k15, kk15, k16, kk16, k17, kk17, k18, kk18]
      refine EV.ret ?_
      simp only [thenK_ret, blockK_ret, scopeK_ret, bodyK_ret]
      subst e
      refine Fin.pure0 ?_
      first | (simp; done) | (simp [k12, kk12, k13, kk13, k14, kk14, k15, kk15, k16, kk16, k17, kk17, k18, kk18]; done) | (simp <;> grind)
     have kk18 := k18
     try simp at kk18
     simp (maxSteps := 2000000) -implicitDefEqProofs [-guardG_v, guardG_bt, guardG_bf, k12, kk12, k13, kk13, k14, kk14, k15, kk15, k16, kk16, k17, kk17, k18, kk18]
     refine EV.ret ?_
     simp only [thenK_ret, blockK_ret, scopeK_ret, bodyK_ret]
     subst e
     refine Fin.pure0 ?_
     first | (simp; done) | (simp [k12, kk12, k13, kk13, k14, kk14, k15, kk15, k16, kk16, k17, kk17, k18, kk18]; done) | (simp <;> grind)
    have kk17 := k17
    try simp at kk17
    simp (maxSteps := 2000000) -implicitDefEqProofs [-guardG_v, guardG_bt, guardG_bf, k12, kk12, k13, kk13, k14, kk14, k15, kk15, k16, kk16, k17, kk17]
    refine EV.ret ?_
    simp only [thenK_ret, blockK_ret, scopeK_ret, bodyK_ret]
    subst e
    refine Fin.pure0 ?_
    first | (simp; done) | (simp [k12, kk12, k13, kk13, k14, kk14, k15, kk15, k16, kk16, k17, kk17]; done) | (simp <;> grind)
   have kk12 := k12
   try simp at kk12
   simp (maxSteps := 2000000) -implicitDefEqProofs [-guardG_v, guardG_bt, guardG_bf, k12, kk12]
   refine EV.ret ?_
   simp only [thenK_ret, blockK_ret, scopeK_ret, bodyK_ret]
   subst e
   refine Fin.pure0 ?_
   first | (simp; done) | (simp [k12, kk12]; done) | (simp <;> grind)
  ·as_aux_lemma =>
   try simp at k11
   obtain ⟨f11, e⟩ := neg_on2 e (by first | simpa using k11 | grind)
   try simp at f11
   refine EV.seq (EV.regionG tabOK ?_)
   simp (maxSteps := 2000000) -implicitDefEqProofs
   refine EV.condT ?_
   simp -implicitDefEqProofs
   refine condT_intro (fun k19 => ?_) (fun k19 => ?_)
   ·as_aux_lemma =>
    try simp at k19
    obtain ⟨f19, e⟩ := pos_on2 e (by first | simpa using k19 | grind)
    try simp at f19
    refine EV.seq (EV.regionG tabOK ?_)
    simp (maxSteps := 2000000) -implicitDefEqProofs [-guardG_v, guardG_bt, guardG_bf]
    by_cases k20 : p0.name = ([] : List UInt8)
    ·skip
     have kk20 := k20
     try simp at kk20
     simp (maxSteps := 2000000) -implicitDefEqProofs [-guardG_v, guardG_bt, guardG_bf, k20, kk20]
     cases k21 : (rNoTy p0.ty)
     ·skip
      have kk21 := k21
      try simp at kk21
      simp (maxSteps := 2000000) -implicitDefEqProofs [-guardG_v, guardG_bt, guardG_bf, k20, kk20, k21, kk21]
      refine EV.ret ?_
      simp only [thenK_ret, blockK_ret, scopeK_ret, bodyK_ret]
      subst e
      refine Fin.pure0 ?_
      first | (simp; done) | (simp [k20, kk20, k21, kk21]; done) | (simp <;> grind)
     have kk21 := k21
     try simp at kk21
     simp (maxSteps := 2000000) -implicitDefEqProofs [-guardG_v, guardG_bt, guardG_bf, k20, kk20, k21, kk21]
     cases k22 : (rNoPlace p0.p)
     ·skip
      have kk22 := k22
      try simp at kk22
      simp (maxSteps := 2000000) -implicitDefEqProofs [-guardG_v, guardG_bt, guardG_bf, k20, kk20, k21, kk21, k22, kk22]
      refine EV.ret ?_
      simp only [thenK_ret, blockK_ret, scopeK_ret, bodyK_ret]
      subst e
      refine Fin.pure0 ?_
      first | (simp; done) | (simp [k20, kk20, k21, kk21, k22, kk22]; done) | (simp <;> grind)
     have kk22 := k22
     try simp at kk22
     simp (maxSteps := 2000000) -implicitDefEqProofs [-guardG_v, guardG_bt, guardG_bf, k20, kk20, k21, kk21, k22, kk22]
     cases k23 : (rNoRv p0.rv)
     ·skip
      have kk23 := k23
      try simp at kk23
      simp (maxSteps := 2000000) -implicitDefEqProofs [-guardG_v, guardG_bt, guardG_bf, k20, kk20, k21, kk21, k22, kk22, k23, kk23]
      refine EV.ret ?_
      simp only [thenK_ret, blockK_ret, scopeK_ret, bodyK_ret]
      subst e
      refine Fin.pure0 ?_
      first | (simp; done) | (simp [k20, kk20, k21, kk21, k22, kk22, k23, kk23]; done) | (simp <;> grind)
     have kk23 := k23
     try simp at kk23
     simp (maxSteps := 2000000) -implicitDefEqProofs [-guardG_v, guardG_bt, guardG_bf, k20, kk20, k21, kk21, k22, kk22, k23, kk23]
     refine callG_fun (w_rValidOper p0.op) ?_ ?_
     ·first | (simp; done) | (simp [-guardG_v, guardG_bt, guardG_bf, k20, kk20, k21, kk21, k22, kk22, k23, kk23]; done)
     simp (maxSteps := 2000000) -implicitDefEqProofs [-guardG_v, guardG_bt, guardG_bf, k20, kk20, k21, kk21, k22, kk22, k23, kk23]
     cases k24 : (rValidOper p0.op)
     ·skip
      have kk24 := k24
      try simp at kk24
      simp (maxSteps := 2000000) -implicitDefEqProofs [-guardG_v, guardG_bt, guardG_bf, k20, kk20, k21, kk21, k22, kk22, k23, kk23, k24, kk24]
      refine EV.ret ?_
      simp only [thenK_ret, blockK_ret, scopeK_ret, bodyK_ret]
      subst e
      refine Fin.pure0 ?_
      first | (simp; done) | (simp [k20, kk20, k21, kk21, k22, kk22, k23, kk23, k24, kk24]; done) | (simp <;> grind)
     have kk24 := k24
     try simp at kk24
     have := sz_StmtD_then_ p0
     simp (maxSteps := 2000000) -implicitDefEqProofs [-guardG_v, guardG_bt, guardG_bf, k20, kk20, k21, kk21, k22, kk22, k23, kk23, k24, kk24]
     refine callG_fun (H_rValidBlock p0.then_ (IntKind.i64.wrap (p1 + 1)) (by first | omega | (simp at *; omega))) ?_ ?_
     ·first | (simp; done) | (simp [-guardG_v, guardG_bt, guardG_bf, k20, kk20, k21, kk21, k22, kk22, k23, kk23, k24, kk24]; done)
     simp (maxSteps := 2000000) -implicitDefEqProofs [-guardG_v, guardG_bt, guardG_bf, k20, kk20, k21, kk21, k22, kk22, k23, kk23, k24, kk24]
     cases k25 : (r_rValidBlock p0.then_ (IntKind.i64.wrap (p1 + 1)))
     ·skip
      have kk25 := k25
      try simp at kk25
      simp (maxSteps := 2000000) -implicitDefEqProofs [-guardG_v, guardG_bt, guardG_bf, k20, kk20, k21, kk21, k22, kk22, k23, kk23, k24, kk24, k25, kk25]
      refine EV.ret ?_
      simp only [thenK_ret, blockK_ret, scopeK_ret, bodyK_ret]
      subst e
      refine Fin.pure0 ?_
      first | (simp; done) | (simp [k20, kk20, k21, kk21, k22, kk22, k23, kk23, k24, kk24, k25, kk25]; done) | (simp <;> grind)
     have kk25 := k25
     try simp at kk25
     have := sz_StmtD_else_ p0
     simp (maxSteps := 2000000) -implicitDefEqProofs [-guardG_v, guardG_bt, guardG_bf, k20, kk20, k21, kk21, k22, kk22, k23, kk23, k24, kk24, k25, kk25]
     refine callG_fun (H_rValidBlock p0.else_ (IntKind.i64.wrap (p1 + 1)) (by first | omega | (simp at *; omega))) ?_ ?_
     ·first | (simp; done) | (simp [-guardG_v, guardG_bt, guardG_bf, k20, kk20, k21, kk21, k22, kk22, k23, kk23, k24, kk24, k25, kk25]; done)
     simp (maxSteps := 2000000) -implicitDefEqProofs [-guardG_v, guardG_bt, guardG_bf, k20, kk20, k21, kk21, k22, kk22, k23, kk23, k24, kk24, k25, kk25]
     cases k26 : (r_rValidBlock p0.else_ (IntKind.i64.wrap (p1 + 1)))
     ·skip
      have kk26 := k26
      try simp at kk26
      simp (maxSteps := 2000000) -implicitDefEqProofs [-guardG_v, guardG_bt, guardG_bf, k20, kk20, k21, kk21, k22, kk22, k23, kk23, k24, kk24, k25, kk25, k26, kk26]
      refine EV.ret ?_
      simp only [thenK_ret, blockK_ret, scopeK_ret, bodyK_ret]
      subst e
      refine Fin.pure0 ?_
      first | (simp; done) | (simp [k20, kk20, k21, kk21, k22, kk22, k23, kk23, k24, kk24, k25, kk25, k26, kk26]; done) | (simp <;> grind)
     have kk26 := k26
     try simp at kk26
     simp (maxSteps := 2000000) -implicitDefEqProofs [-guardG_v, guardG_bt, guardG_bf, k20, kk20, k21, kk21, k22, kk22, k23, kk23, k24, kk24, k25, kk25, k26, kk26]
     refine EV.ret ?_
     simp only [thenK_ret, blockK_ret, scopeK_ret, bodyK_ret]
     subst e
     refine Fin.pure0 ?_
     first | (simp; done) | (simp [k20, kk20, k21, kk21, k22, kk22, k23, kk23, k24, kk24, k25, kk25, k26, kk26]; done) | (simp <;> grind)
    have kk20 := k20
    try simp at kk20
    simp (maxSteps := 2000000) -implicitDefEqProofs [-guardG_v, guardG_bt, guardG_bf, k20, kk20]
    refine EV.ret ?_
    simp only [thenK_ret, blockK_ret, scopeK_ret, bodyK_ret]
    subst e
    refine Fin.pure0 ?_
    first | (simp; done) | (simp [k20, kk20]; done) | (simp <;> grind)
   ·as_aux_lemma =>
    try simp at k19
    obtain ⟨f19, e⟩ := neg_on2 e (by first | simpa using k19 | grind)
    try simp at f19
    refine EV.seq (EV.regionG tabOK ?_)
    simp (maxSteps := 2000000) -implicitDefEqProofs
    refine EV.condT ?_
    simp -implicitDefEqProofs
    refine condT_intro (fun k27 => ?_) (fun k27 => ?_)
    ·as_aux_lemma =>
     try simp at k27
     obtain ⟨f27, e⟩ := pos_on2 e (by first | simpa using k27 | grind)
     try simp at f27
     refine EV.seq (EV.regionG tabOK ?_)
     simp (maxSteps := 2000000) -implicitDefEqProofs [-guardG_v, guardG_bt, guardG_bf]
     by_cases k28 : p0.name = ([] : List UInt8)
     ·skip
      have kk28 := k28
      try simp at kk28
      simp (maxSteps := 2000000) -implicitDefEqProofs [-guardG_v, guardG_bt, guardG_bf, k28, kk28]
      cases k29 : (rNoTy p0.ty)
      ·skip
       have kk29 := k29
       try simp at kk29
       simp (maxSteps := 2000000) -implicitDefEqProofs [-guardG_v, guardG_bt, guardG_bf, k28, kk28, k29, kk29]
       refine EV.ret ?_
       simp only [thenK_ret, blockK_ret, scopeK_ret, bodyK_ret]
       subst e
       refine Fin.pure0 ?_
       first | (simp; done) | (simp [k28, kk28, k29, kk29]; done) | (simp <;> grind)
      have kk29 := k29
      try simp at kk29
      simp (maxSteps := 2000000) -implicitDefEqProofs [-guardG_v, guardG_bt, guardG_bf, k28, kk28, k29, kk29]
      cases k30 : (rNoPlace p0.p)
      ·skip
       have kk30 := k30
       try simp at kk30
       simp (maxSteps := 2000000) -implicitDefEqProofs [-guardG_v, guardG_bt, guardG_bf, k28, kk28, k29, kk29, k30, kk30]
       refine EV.ret ?_
       simp only [thenK_ret, blockK_ret, scopeK_ret, bodyK_ret]
       subst e
       refine Fin.pure0 ?_
       first | (simp; done) | (simp [k28, kk28, k29, kk29, k30, kk30]; done) | (simp <;> grind)
      have kk30 := k30
      try simp at kk30
      simp (maxSteps := 2000000) -implicitDefEqProofs [-guardG_v, guardG_bt, guardG_bf, k28, kk28, k29, kk29, k30, kk30]
      cases k31 : (rNoRv p0.rv)
      ·skip
       have kk31 := k31
       try simp at kk31
       simp (maxSteps := 2000000) -implicitDefEqProofs [-guardG_v, guardG_bt, guardG_bf, k28, kk28, k29, kk29, k30, kk30, k31, kk31]
       refine EV.ret ?_
       simp only [thenK_ret, blockK_ret, scopeK_ret, bodyK_ret]
       subst e
       refine Fin.pure0 ?_
       first | (simp; done) | (simp [k28, kk28, k29, kk29, k30, kk30, k31, kk31]; done) | (simp <;> grind)
      have kk31 := k31
      try simp at kk31
      simp (maxSteps := 2000000) -implicitDefEqProofs [-guardG_v, guardG_bt, guardG_bf, k28, kk28, k29, kk29, k30, kk30, k31, kk31]
      refine callG_fun (w_rValidOper p0.op) ?_ ?_
      ·first | (simp; done) | (simp [-guardG_v, guardG_bt, guardG_bf, k28, kk28, k29, kk29, k30, kk30, k31, kk31]; done)
      simp (maxSteps := 2000000) -implicitDefEqProofs [-guardG_v, guardG_bt, guardG_bf, k28, kk28, k29, kk29, k30, kk30, k31, kk31]
      cases k32 : (rValidOper p0.op)
      ·skip
       have kk32 := k32
       try simp at kk32
       simp (maxSteps := 2000000) -implicitDefEqProofs [-guardG_v, guardG_bt, guardG_bf, k28, kk28, k29, kk29, k30, kk30, k31, kk31, k32, kk32]
       refine EV.ret ?_
       simp only [thenK_ret, blockK_ret, scopeK_ret, bodyK_ret]
       subst e
       refine Fin.pure0 ?_
       first | (simp; done) | (simp [k28, kk28, k29, kk29, k30, kk30, k31, kk31, k32, kk32]; done) | (simp <;> grind)
      have kk32 := k32
      try simp at kk32
      have := sz_StmtD_then_ p0
      simp (maxSteps := 2000000) -implicitDefEqProofs [-guardG_v, guardG_bt, guardG_bf, k28, kk28, k29, kk29, k30, kk30, k31, kk31, k32, kk32]
      refine callG_fun (H_rValidBlock p0.then_ (IntKind.i64.wrap (p1 + 1)) (by first | omega | (simp at *; omega))) ?_ ?_
      ·first | (simp; done) | (simp [-guardG_v, guardG_bt, guardG_bf, k28, kk28, k29, kk29, k30, kk30, k31, kk31, k32, kk32]; done)
      simp (maxSteps := 2000000) -implicitDefEqProofs [-guardG_v, guardG_bt, guardG_bf, k28, kk28, k29, kk29, k30, kk30, k31, kk31, k32, kk32]
      cases k33 : (r_rValidBlock p0.then_ (IntKind.i64.wrap (p1 + 1)))
      ·skip
       have kk33 := k33
       try simp at kk33
       simp (maxSteps := 2000000) -implicitDefEqProofs [-guardG_v, guardG_bt, guardG_bf, k28, kk28, k29, kk29, k30, kk30, k31, kk31, k32, kk32, k33, kk33]
       refine EV.ret ?_
       simp only [thenK_ret, blockK_ret, scopeK_ret, bodyK_ret]
       subst e
       refine Fin.pure0 ?_
       first | (simp; done) | (simp [k28, kk28, k29, kk29, k30, kk30, k31, kk31, k32, kk32, k33, kk33]; done) | (simp <;> grind)
      have kk33 := k33
      try simp at kk33
      simp (maxSteps := 2000000) -implicitDefEqProofs [-guardG_v, guardG_bt, guardG_bf, k28, kk28, k29, kk29, k30, kk30, k31, kk31, k32, kk32, k33, kk33]
      by_cases k34 : (p0.else_.length : Int) = 0
      ·skip
       have kk34 := k34
       try simp at kk34
       simp (maxSteps := 2000000) -implicitDefEqProofs [-guardG_v, guardG_bt, guardG_bf, k28, kk28, k29, kk29, k30, kk30, k31, kk31, k32, kk32, k33, kk33, k34, kk34]
       refine EV.ret ?_
       simp only [thenK_ret, blockK_ret, scopeK_ret, bodyK_ret]
       subst e
       refine Fin.pure0 ?_
       first | (simp; done) | (simp [k28, kk28, k29, kk29, k30, kk30, k31, kk31, k32, kk32, k33, kk33, k34, kk34]; done) | (simp <;> grind)
      have kk34 := k34
      try simp at kk34
      simp (maxSteps := 2000000) -implicitDefEqProofs [-guardG_v, guardG_bt, guardG_bf, k28, kk28, k29, kk29, k30, kk30, k31, kk31, k32, kk32, k33, kk33, k34, kk34]
      refine EV.ret ?_
      simp only [thenK_ret, blockK_ret, scopeK_ret, bodyK_ret]
      subst e
      refine Fin.pure0 ?_
      first | (simp; done) | (simp [k28, kk28, k29, kk29, k30, kk30, k31, kk31, k32, kk32, k33, kk33, k34, kk34]; done) | (simp <;> grind)
     have kk28 := k28
     try simp at kk28
     simp (maxSteps := 2000000) -implicitDefEqProofs [-guardG_v, guardG_bt, guardG_bf, k28, kk28]
     refine EV.ret ?_
     simp only [thenK_ret, blockK_ret, scopeK_ret, bodyK_ret]
     subst e
     refine Fin.pure0 ?_
     first | (simp; done) | (simp [k28, kk28]; done) | (simp <;> grind)
    ·as_aux_lemma =>
     try simp at k27
     obtain ⟨f27, e⟩ := neg_on2 e (by first | simpa using k27 | grind)
     try simp at f27
     refine EV.seq (EV.regionG tabOK ?_)
     simp (maxSteps := 2000000) -implicitDefEqProofs
     refine EV.condT ?_
     simp -implicitDefEqProofs
     refine condT_intro (fun k35 => ?_) (fun k35 => ?_)
     ·as_aux_lemma =>
      try simp at k35
      obtain ⟨f35, e⟩ := pos_on2 e (by first | simpa using k35 | grind)
      try simp at f35
      refine EV.seq (EV.seq (EV.regionG tabOK ?_))
      simp (maxSteps := 2000000) -implicitDefEqProofs [-guardG_v, guardG_bt, guardG_bf]
      by_cases k36 : p0.name = ([] : List UInt8)
      ·skip
       have kk36 := k36
       try simp at kk36
       simp (maxSteps := 2000000) -implicitDefEqProofs [-guardG_v, guardG_bt, guardG_bf, k36, kk36]
       cases k37 : (rNoTy p0.ty)
       ·skip
        have kk37 := k37
        try simp at kk37
        simp (maxSteps := 2000000) -implicitDefEqProofs [-guardG_v, guardG_bt, guardG_bf, k36, kk36, k37, kk37]
        refine EV.condT ?_
        simp -implicitDefEqProofs [k36, kk36, k37, kk37]
        replace e := pos_on e (by simp [k36, kk36, k37, kk37])
        refine EV.seq (EV.regionG tabOK ?_)
        simp (maxSteps := 2000000) -implicitDefEqProofs [k36, kk36, k37, kk37]
        refine EV.ret ?_
        simp only [thenK_ret, blockK_ret, scopeK_ret, bodyK_ret]
        subst e
        refine Fin.pure0 ?_
        first | (simp; done) | (simp [k36, kk36, k37, kk37]; done) | (simp <;> grind)
       have kk37 := k37
       try simp at kk37
       simp (maxSteps := 2000000) -implicitDefEqProofs [-guardG_v, guardG_bt, guardG_bf, k36, kk36, k37, kk37]
       refine callG_fun (w_rValidPlace p0.p true) ?_ ?_
       ·first | (simp; done) | (simp [-guardG_v, guardG_bt, guardG_bf, k36, kk36, k37, kk37]; done)
       simp (maxSteps := 2000000) -implicitDefEqProofs [-guardG_v, guardG_bt, guardG_bf, k36, kk36, k37, kk37]
       cases k38 : (rValidPlace p0.p true)
       ·skip
        have kk38 := k38
        try simp at kk38
        simp (maxSteps := 2000000) -implicitDefEqProofs [-guardG_v, guardG_bt, guardG_bf, k36, kk36, k37, kk37, k38, kk38]
        refine EV.condT ?_
        simp -implicitDefEqProofs [k36, kk36, k37, kk37, k38, kk38]
        replace e := pos_on e (by simp [k36, kk36, k37, kk37, k38, kk38])
        refine EV.seq (EV.regionG tabOK ?_)
        simp (maxSteps := 2000000) -implicitDefEqProofs [k36, kk36, k37, kk37, k38, kk38]
        refine EV.ret ?_
        simp only [thenK_ret, blockK_ret, scopeK_ret, bodyK_ret]
        subst e
        refine Fin.pure0 ?_
        first | (simp; done) | (simp [k36, kk36, k37, kk37, k38, kk38]; done) | (simp <;> grind)
       have kk38 := k38
       try simp at kk38
       simp (maxSteps := 2000000) -implicitDefEqProofs [-guardG_v, guardG_bt, guardG_bf, k36, kk36, k37, kk37, k38, kk38]
       cases k39 : (rNoRv p0.rv)
       ·skip
        have kk39 := k39
        try simp at kk39
        simp (maxSteps := 2000000) -implicitDefEqProofs [-guardG_v, guardG_bt, guardG_bf, k36, kk36, k37, kk37, k38, kk38, k39, kk39]
        refine EV.condT ?_
        simp -implicitDefEqProofs [k36, kk36, k37, kk37, k38, kk38, k39, kk39]
        replace e := pos_on e (by simp [k36, kk36, k37, kk37, k38, kk38, k39, kk39])
        refine EV.seq (EV.regionG tabOK ?_)
        simp (maxSteps := 2000000) -implicitDefEqProofs [k36, kk36, k37, kk37, k38, kk38, k39, kk39]
        refine EV.ret ?_
        simp only [thenK_ret, blockK_ret, scopeK_ret, bodyK_ret]
        subst e
        refine Fin.pure0 ?_
        first | (simp; done) | (simp [k36, kk36, k37, kk37, k38, kk38, k39, kk39]; done) | (simp <;> grind)
       have kk39 := k39
       try simp at kk39
       simp (maxSteps := 2000000) -implicitDefEqProofs [-guardG_v, guardG_bt, guardG_bf, k36, kk36, k37, kk37, k38, kk38, k39, kk39]
       cases k40 : (rNoOper p0.op)
       ·skip
        have kk40 := k40
        try simp at kk40
        simp (maxSteps := 2000000) -implicitDefEqProofs [-guardG_v, guardG_bt, guardG_bf, k36, kk36, k37, kk37, k38, kk38, k39, kk39, k40, kk40]
        refine EV.condT ?_
        simp -implicitDefEqProofs [k36, kk36, k37, kk37, k38, kk38, k39, kk39, k40, kk40]
        replace e := pos_on e (by simp [k36, kk36, k37, kk37, k38, kk38, k39, kk39, k40, kk40])
        refine EV.seq (EV.regionG tabOK ?_)
        simp (maxSteps := 2000000) -implicitDefEqProofs [k36, kk36, k37, kk37, k38, kk38, k39, kk39, k40, kk40]
        refine EV.ret ?_
        simp only [thenK_ret, blockK_ret, scopeK_ret, bodyK_ret]
        subst e
        refine Fin.pure0 ?_
        first | (simp; done) | (simp [k36, kk36, k37, kk37, k38, kk38, k39, kk39, k40, kk40]; done) | (simp <;> grind)
       have kk40 := k40
       try simp at kk40
       simp (maxSteps := 2000000) -implicitDefEqProofs [-guardG_v, guardG_bt, guardG_bf, k36, kk36, k37, kk37, k38, kk38, k39, kk39, k40, kk40]
       by_cases k41 : (p0.then_.length : Int) = 0
       ·skip
        have kk41 := k41
        try simp at kk41
        simp (maxSteps := 2000000) -implicitDefEqProofs [-guardG_v, guardG_bt, guardG_bf, k36, kk36, k37, kk37, k38, kk38, k39, kk39, k40, kk40, k41, kk41]
        refine EV.condT ?_
        simp -implicitDefEqProofs [k36, kk36, k37, kk37, k38, kk38, k39, kk39, k40, kk40, k41, kk41]
        refine condT_intro (fun k42 => ?_) (fun k42 => ?_)
        ·as_aux_lemma =>
         try simp at k42
         obtain ⟨f42, e⟩ := pos_on2 e (by first | simpa [k36, kk36, k37, kk37, k38, kk38, k39, kk39, k40, kk40, k41, kk41] using k42 | grind)
         try simp at f42
         refine EV.seq (EV.regionG tabOK ?_)
         simp (maxSteps := 2000000) -implicitDefEqProofs [k36, kk36, k37, kk37, k38, kk38, k39, kk39, k40, kk40, k41, kk41]
         refine EV.ret ?_
         simp only [thenK_ret, blockK_ret, scopeK_ret, bodyK_ret]
         subst e
         refine Fin.pure0 ?_
         first | (simp; done) | (simp [k36, kk36, k37, kk37, k38, kk38, k39, kk39, k40, kk40, k41, kk41]; done) | (simp <;> grind)
        ·as_aux_lemma =>
         try simp at k42
         obtain ⟨f42, e⟩ := neg_on2 e (by first | simpa [k36, kk36, k37, kk37, k38, kk38, k39, kk39, k40, kk40, k41, kk41] using k42 | grind)
         try simp at f42
         refine EV.skip ?_
         simp only [thenK_normal, blockK_normal, scopeK_normal]
         refine EV.seq (EV.seq (EV.regionG tabOK ?_))
         simp (maxSteps := 2000000) -implicitDefEqProofs [k36, kk36, k37, kk37, k38, kk38, k39, kk39, k40, kk40, k41, kk41]
         obtain ⟨z21, e21, e⟩ := run_split e
         refine EV.nrm (fun v : { v : (Unit) × (Unit) // z21 = .go v.1 } => (fun (v21 : Unit) (g21 : Unit) => (⟨[J, J, J, J, J, J, J, J, J, J, J, J, J, J, J, J, J, J, J, J, J, J, J, J, J, J, J, J, J, J, J, J, J, J, J, J, J, J, J, J, J, J, J, J, J, J, J, J, J, J, J, J, J, J, J, J, J, J, J, J, J, J, J, J, J, J, J, J, J, J, J, J, J, J, J, J, J, J, J, J, J, J, J, J, J, J, J, J, J, J, J, J, J, J, J, J, J, J, J, J, J, J, J, J, J, J, J, J, J, J, J, J, J, J, J, J, J, J, J, J, J, J, J, J, J, J, J, J, J, J, J, J, J, J, J, J, J, J, J, J, J, J, J, J, J, J, J, J, J, J, J, J, J, J, J, J, J, J, J, J, J, J, J, J, J, J, J, J, J, J, J, J, J, J, J, J, J, J, J, J, J, J, J, J, J, J, J, J, J, J, J, J, J, J, J, J, J, J, J, J, J, J, J, J, J, J, J, J, J, J, J, J, J, J, J, J, J, J, J, J, J, J, J, J, J, J, J, J, J, J, J, J, J, J, J, J, J, J, J, J, J, J, J, J, J, J, J, J, J, J, J, J, J, J, J, J, J, J, J, J, J, J, J, J, J, J, J], []⟩ : St)) v.1.1 v.1.2) ?_ ?_
         ·skip
          refine EV.block ?_
          refine EV.loopB (fun x : { x : Nat // x ≤ p0.arms.length ∧ rValidStmt_b_l21 r_rValidBlock p1 (p0.arms.drop x) = z21 } => (fun (j21 : Nat) => (⟨[J, .i .i64 p1, .ptr 0 0 0 0, J, J, J, J, J, J, J, J, J, .i .i64 (j21 : Int), J, J, J, J, J, J, J, J, J, J, J, J, J, J, J, J, J, J, J, J, J, J, J, J, J, J, J, J, J, J, J, J, J, J, J, J, J, J, J, J, J, J, J, J, J, J, J, J, J, J, J, J, J, J, J, J, J, J, J, J, J, J, J, J, J, J, J, J, J, J, J, J, J, J, J, J, J, J, J, J, J, J, J, J, J, J, J, J, J, J, J, J, J, J, J, J, J, J, J, J, J, J, J, J, J, J, J, J, J, J, J, J, J, J, J, J, J, J, J, J, J, J, J, J, J, J, J, J, J, J, J, J, J, J, J, J, J, J, J, J, J, J, J, J, J, J, J, J, J, J, J, J, J, J, J, J, J, J, J, J, J, J, J, J, J, J, J, J, J, J, J, J, J, J, J, J, J, J, J, J, J, J, J, J, J, J, J, J, J, J, J, J, J, J, J, J, J, J, J, J, J, J, J, J, J, J, J, J, J, J, J, J, J, J, J, J, J, J, J, J, J, J, J, J, J, J, J, J, J, J, J, J, J, J, J, J, J, J, J, J, J, J, J, J, J, J, J, J, J, J, J, J, J, J], [.arr 0 21 [[.i .i64 p0.k, .i .i64 p0.at_, .s p0.name, .i .i64 p0.ty.k, .s p0.ty.name, .ro 3 (p0.ty.l.map tyC), .s p0.p.name, .ro 1 (p0.p.path.map stepC), .i .i64 p0.rv.k, .ro 4 (p0.rv.ops.map operC), .s p0.rv.p.name, .ro 1 (p0.rv.p.path.map stepC), .s p0.rv.name, .s p0.rv.variant, .b p0.op.num, .i .i64 p0.op.n, .s p0.op.p.name, .ro 1 (p0.op.p.path.map stepC), .ro 21 (p0.then_.map stmtC), .ro 21 (p0.else_.map stmtC), .ro 3 (p0.arms.map armC)]]]⟩ : St)) x.1) (fun x => p0.arms.length - x.1) ⟨0, Nat.zero_le _, e21⟩ ?_ ?_
          ·skip
           try dsimp only
           try dsimp only
           refine Sub.cutF 1 (by simp) ?_ ?_ <;> simp [List.range_succ, toIdx_range, passed, k36, kk36, k37, kk37, k38, kk38, k39, kk39, k40, kk40, k41, kk41]
          rintro ⟨j21, hi21, e21⟩
          simp only at hi21 e21 ⊢
          refine EV.seq (EV.seq (EV.regionG tabOK ?_))
          simp (maxSteps := 2000000) -implicitDefEqProofs [k36, kk36, k37, kk37, k38, kk38, k39, kk39, k40, kk40, k41, kk41]
          refine EV.room 186 (by rfl) (fun mj21 => ?_)
          simp at mj21
          refine EV.condT ?_
          simp -implicitDefEqProofs [k36, kk36, k37, kk37, k38, kk38, k39, kk39, k40, kk40, k41, kk41]
          refine condT_intro (fun k43 => ?_) (fun k43 => ?_)
          ·try simp at k43
           have u43 : j21 < p0.arms.length := by omega
           obtain ⟨x21, hx21⟩ : ∃ z, p0.arms[j21] = z := ⟨_, rfl⟩
           have mx21 : x21 ∈ p0.arms := by rw [← hx21]; exact List.getElem_mem _
           have zzx21 := List.sizeOf_lt_of_mem mx21
           have := sz_StmtD_arms p0
           rw [List.drop_eq_getElem_cons u43, hx21, rValidStmt_b_l21] at e21
           refine EV.skip ?_
           simp only [thenK_normal, blockK_normal, scopeK_normal]
           refine EV.seq (EV.block (EV.seq (EV.regionG tabOK ?_)))
           simp (maxSteps := 2000000) -implicitDefEqProofs [k36, kk36, k37, kk37, k38, kk38, k39, kk39, k40, kk40, k41, kk41, k43, u43, hx21]
           refine EV.seq (EV.regionG tabOK ?_)
           simp (maxSteps := 2000000) -implicitDefEqProofs [-guardG_v, guardG_bt, guardG_bf, k36, kk36, k37, kk37, k38, kk38, k39, kk39, k40, kk40, k41, kk41, k43, u43, hx21]
           refine callG_fun (w_rGreat x21.variant) ?_ ?_
           ·first | (simp; done) | (simp [-guardG_v, guardG_bt, guardG_bf, k36, kk36, k37, kk37, k38, kk38, k39, kk39, k40, kk40, k41, kk41, k43, u43, hx21]; done)
           simp (maxSteps := 2000000) -implicitDefEqProofs [-guardG_v, guardG_bt, guardG_bf, k36, kk36, k37, kk37, k38, kk38, k39, kk39, k40, kk40, k41, kk41, k43, u43, hx21]
           cases k44 : (rGreat x21.variant)
           ·skip
            have kk44 := k44
            try simp at kk44
            simp (maxSteps := 2000000) -implicitDefEqProofs [-guardG_v, guardG_bt, guardG_bf, k36, kk36, k37, kk37, k38, kk38, k39, kk39, k40, kk40, k41, kk41, k43, u43, hx21, k44, kk44]
            refine EV.condT ?_
            simp -implicitDefEqProofs [k36, kk36, k37, kk37, k38, kk38, k39, kk39, k40, kk40, k41, kk41, k43, u43, hx21, k44, kk44]
            replace e21 := pos_on e21 (by simp [k36, kk36, k37, kk37, k38, kk38, k39, kk39, k40, kk40, k41, kk41, k43, u43, hx21, k44, kk44])
            refine EV.seq (EV.regionG tabOK ?_)
            simp (maxSteps := 2000000) -implicitDefEqProofs [k36, kk36, k37, kk37, k38, kk38, k39, kk39, k40, kk40, k41, kk41, k43, u43, hx21, k44, kk44]
            refine EV.ret ?_
            simp only [thenK_ret, blockK_ret, scopeK_ret, bodyK_ret]
            replace e := run_back e e21
            subst e
            refine Fin.pure0 ?_
            first | (simp; done) | (simp [k44, kk44]; done) | (simp <;> grind)
           have kk44 := k44
           try simp at kk44
           simp (maxSteps := 2000000) -implicitDefEqProofs [-guardG_v, guardG_bt, guardG_bf, k36, kk36, k37, kk37, k38, kk38, k39, kk39, k40, kk40, k41, kk41, k43, u43, hx21, k44, kk44]
           by_cases k45 : x21.bind = ([] : List UInt8)
           ·skip
            have kk45 := k45
            try simp at kk45
            have := sz_ArmD_body x21
            simp (maxSteps := 2000000) -implicitDefEqProofs [-guardG_v, guardG_bt, guardG_bf, k36, kk36, k37, kk37, k38, kk38, k39, kk39, k40, kk40, k41, kk41, k43, u43, hx21, k44, kk44, k45, kk45]
            refine callG_fun (H_rValidBlock x21.body (IntKind.i64.wrap (p1 + 1)) (by first | omega | (simp at *; omega))) ?_ ?_
            ·first | (simp; done) | (simp [-guardG_v, guardG_bt, guardG_bf, k36, kk36, k37, kk37, k38, kk38, k39, kk39, k40, kk40, k41, kk41, k43, u43, hx21, k44, kk44, k45, kk45]; done)
            simp (maxSteps := 2000000) -implicitDefEqProofs [-guardG_v, guardG_bt, guardG_bf, k36, kk36, k37, kk37, k38, kk38, k39, kk39, k40, kk40, k41, kk41, k43, u43, hx21, k44, kk44, k45, kk45]
            refine EV.condT ?_
            simp -implicitDefEqProofs [k36, kk36, k37, kk37, k38, kk38, k39, kk39, k40, kk40, k41, kk41, k43, u43, hx21, k44, kk44, k45, kk45]
            refine condT_intro (fun k46 => ?_) (fun k46 => ?_)
            ·as_aux_lemma =>
             try simp at k46
             obtain ⟨f46, e21⟩ := pos_on2 e21 (by first | simpa [k44, kk44, k45, kk45] using k46 | grind)
             try simp at f46
             refine EV.seq (EV.regionG tabOK ?_)
             simp (maxSteps := 2000000) -implicitDefEqProofs [k36, kk36, k37, kk37, k38, kk38, k39, kk39, k40, kk40, k41, kk41, k43, u43, hx21, k44, kk44, k45, kk45]
             refine EV.ret ?_
             simp only [thenK_ret, blockK_ret, scopeK_ret, bodyK_ret]
             replace e := run_back e e21
             subst e
             refine Fin.pure0 ?_
             first | (simp; done) | (simp [k44, kk44, k45, kk45]; done) | (simp <;> grind)
            ·as_aux_lemma =>
             try simp at k46
             obtain ⟨f46, e21⟩ := neg_on2 e21 (by first | simpa [k44, kk44, k45, kk45] using k46 | grind)
             try simp at f46
             refine EV.skip ?_
             simp only [thenK_normal, blockK_normal, scopeK_normal]
             refine EV.regionG tabOK ?_
             simp (maxSteps := 2000000) -implicitDefEqProofs [k36, kk36, k37, kk37, k38, kk38, k39, kk39, k40, kk40, k41, kk41, k43, u43, hx21, k44, kk44, k45, kk45]
             have w21 : IntKind.i64.wrap ((j21 : Int) + 1) = (j21 : Int) + 1 := wrap_in _ (by omega) (by omega)
             refine ⟨⟨j21 + 1, by omega, e21⟩, by dsimp only; omega, ?_⟩
             try dsimp only
             refine Sub.cutF 1 (by simp) ?_ ?_ <;> simp [List.range_succ, toIdx_range, passed, k36, kk36, k37, kk37, k38, kk38, k39, kk39, k40, kk40, k41, kk41, k43, u43, hx21, k44, kk44, k45, kk45, w21]
           have kk45 := k45
           try simp at kk45
           simp (maxSteps := 2000000) -implicitDefEqProofs [-guardG_v, guardG_bt, guardG_bf, k36, kk36, k37, kk37, k38, kk38, k39, kk39, k40, kk40, k41, kk41, k43, u43, hx21, k44, kk44, k45, kk45]
           refine callG_fun (w_rSmall x21.bind) ?_ ?_
           ·first | (simp; done) | (simp [-guardG_v, guardG_bt, guardG_bf, k36, kk36, k37, kk37, k38, kk38, k39, kk39, k40, kk40, k41, kk41, k43, u43, hx21, k44, kk44, k45, kk45]; done)
           simp (maxSteps := 2000000) -implicitDefEqProofs [-guardG_v, guardG_bt, guardG_bf, k36, kk36, k37, kk37, k38, kk38, k39, kk39, k40, kk40, k41, kk41, k43, u43, hx21, k44, kk44, k45, kk45]
           cases k47 : (rSmall x21.bind)
           ·skip
            have kk47 := k47
            try simp at kk47
            simp (maxSteps := 2000000) -implicitDefEqProofs [-guardG_v, guardG_bt, guardG_bf, k36, kk36, k37, kk37, k38, kk38, k39, kk39, k40, kk40, k41, kk41, k43, u43, hx21, k44, kk44, k45, kk45, k47, kk47]
            refine EV.condT ?_
            simp -implicitDefEqProofs [k36, kk36, k37, kk37, k38, kk38, k39, kk39, k40, kk40, k41, kk41, k43, u43, hx21, k44, kk44, k45, kk45, k47, kk47]
            replace e21 := pos_on e21 (by simp [k36, kk36, k37, kk37, k38, kk38, k39, kk39, k40, kk40, k41, kk41, k43, u43, hx21, k44, kk44, k45, kk45, k47, kk47])
            refine EV.seq (EV.regionG tabOK ?_)
            simp (maxSteps := 2000000) -implicitDefEqProofs [k36, kk36, k37, kk37, k38, kk38, k39, kk39, k40, kk40, k41, kk41, k43, u43, hx21, k44, kk44, k45, kk45, k47, kk47]
            refine EV.ret ?_
            simp only [thenK_ret, blockK_ret, scopeK_ret, bodyK_ret]
            replace e := run_back e e21
            subst e
            refine Fin.pure0 ?_
            first | (simp; done) | (simp [k44, kk44, k45, kk45, k47, kk47]; done) | (simp <;> grind)
           have kk47 := k47
           try simp at kk47
           have := sz_ArmD_body x21
           simp (maxSteps := 2000000) -implicitDefEqProofs [-guardG_v, guardG_bt, guardG_bf, k36, kk36, k37, kk37, k38, kk38, k39, kk39, k40, kk40, k41, kk41, k43, u43, hx21, k44, kk44, k45, kk45, k47, kk47]
           refine callG_fun (H_rValidBlock x21.body (IntKind.i64.wrap (p1 + 1)) (by first | omega | (simp at *; omega))) ?_ ?_
           ·first | (simp; done) | (simp [-guardG_v, guardG_bt, guardG_bf, k36, kk36, k37, kk37, k38, kk38, k39, kk39, k40, kk40, k41, kk41, k43, u43, hx21, k44, kk44, k45, kk45, k47, kk47]; done)
           simp (maxSteps := 2000000) -implicitDefEqProofs [-guardG_v, guardG_bt, guardG_bf, k36, kk36, k37, kk37, k38, kk38, k39, kk39, k40, kk40, k41, kk41, k43, u43, hx21, k44, kk44, k45, kk45, k47, kk47]
           refine EV.condT ?_
           simp -implicitDefEqProofs [k36, kk36, k37, kk37, k38, kk38, k39, kk39, k40, kk40, k41, kk41, k43, u43, hx21, k44, kk44, k45, kk45, k47, kk47]
           refine condT_intro (fun k48 => ?_) (fun k48 => ?_)
           ·as_aux_lemma =>
            try simp at k48
            obtain ⟨f48, e21⟩ := pos_on2 e21 (by first | simpa [k44, kk44, k45, kk45, k47, kk47] using k48 | grind)
            try simp at f48
            refine EV.seq (EV.regionG tabOK ?_)
            simp (maxSteps := 2000000) -implicitDefEqProofs [k36, kk36, k37, kk37, k38, kk38, k39, kk39, k40, kk40, k41, kk41, k43, u43, hx21, k44, kk44, k45, kk45, k47, kk47]
            refine EV.ret ?_
            simp only [thenK_ret, blockK_ret, scopeK_ret, bodyK_ret]
            replace e := run_back e e21
            subst e
            refine Fin.pure0 ?_
            first | (simp; done) | (simp [k44, kk44, k45, kk45, k47, kk47]; done) | (simp <;> grind)
           ·as_aux_lemma =>
            try simp at k48
            obtain ⟨f48, e21⟩ := neg_on2 e21 (by first | simpa [k44, kk44, k45, kk45, k47, kk47] using k48 | grind)
            try simp at f48
            refine EV.skip ?_
            simp only [thenK_normal, blockK_normal, scopeK_normal]
            refine EV.regionG tabOK ?_
            simp (maxSteps := 2000000) -implicitDefEqProofs [k36, kk36, k37, kk37, k38, kk38, k39, kk39, k40, kk40, k41, kk41, k43, u43, hx21, k44, kk44, k45, kk45, k47, kk47]
            have w21 : IntKind.i64.wrap ((j21 : Int) + 1) = (j21 : Int) + 1 := wrap_in _ (by omega) (by omega)
            refine ⟨⟨j21 + 1, by omega, e21⟩, by dsimp only; omega, ?_⟩
            try dsimp only
            refine Sub.cutF 1 (by simp) ?_ ?_ <;> simp [List.range_succ, toIdx_range, passed, k36, kk36, k37, kk37, k38, kk38, k39, kk39, k40, kk40, k41, kk41, k43, u43, hx21, k44, kk44, k45, kk45, k47, kk47, w21]
          try simp at k43
          have d43 : p0.arms.drop j21 = [] := List.drop_eq_nil_of_le (by omega)
          rw [d43, rValidStmt_b_l21] at e21
          refine EV.exit ?_
          simp -implicitDefEqProofs
          refine ⟨⟨((), ()), e21.symm⟩, ?_⟩
          try dsimp only
          refine Sub.cutF 0 (by simp) ?_ ?_ <;> simp [List.range_succ, toIdx_range, passed, k36, kk36, k37, kk37, k38, kk38, k39, kk39, k40, kk40, k41, kk41]
         rintro ⟨⟨v21, g21⟩, e21⟩
         simp only [thenK_normal, blockK_normal, scopeK_normal, bodyK_normal]
         replace e := run_on e e21
         try dsimp only at e
         refine EV.seq (EV.regionG tabOK ?_)
         simp (maxSteps := 2000000) -implicitDefEqProofs [k36, kk36, k37, kk37, k38, kk38, k39, kk39, k40, kk40, k41, kk41]
         refine EV.ret ?_
         simp only [thenK_ret, blockK_ret, scopeK_ret, bodyK_ret]
         subst e
         refine Fin.pure0 ?_
         first | (simp; done) | (simp; done) | (simp <;> grind)
       have kk41 := k41
       try simp at kk41
       simp (maxSteps := 2000000) -implicitDefEqProofs [-guardG_v, guardG_bt, guardG_bf, k36, kk36, k37, kk37, k38, kk38, k39, kk39, k40, kk40, k41, kk41]
       refine EV.condT ?_
       simp -implicitDefEqProofs [k36, kk36, k37, kk37, k38, kk38, k39, kk39, k40, kk40, k41, kk41]
       replace e := pos_on e (by simp [k36, kk36, k37, kk37, k38, kk38, k39, kk39, k40, kk40, k41, kk41])
       refine EV.seq (EV.regionG tabOK ?_)
       simp (maxSteps := 2000000) -implicitDefEqProofs [k36, kk36, k37, kk37, k38, kk38, k39, kk39, k40, kk40, k41, kk41]
       refine EV.ret ?_
       simp only [thenK_ret, blockK_ret, scopeK_ret, bodyK_ret]
       subst e
       refine Fin.pure0 ?_
       first | (simp; done) | (simp [k36, kk36, k37, kk37, k38, kk38, k39, kk39, k40, kk40, k41, kk41]; done) | (simp <;> grind)
      have kk36 := k36
      try simp at kk36
      simp (maxSteps := 2000000) -implicitDefEqProofs [-guardG_v, guardG_bt, guardG_bf, k36, kk36]
      refine EV.condT ?_
      simp -implicitDefEqProofs [k36, kk36]
      replace e := pos_on e (by simp [k36, kk36])
      refine EV.seq (EV.regionG tabOK ?_)
      simp (maxSteps := 2000000) -implicitDefEqProofs [k36, kk36]
      refine EV.ret ?_
      simp only [thenK_ret, blockK_ret, scopeK_ret, bodyK_ret]
      subst e
      refine Fin.pure0 ?_
      first | (simp; done) | (simp [k36, kk36]; done) | (simp <;> grind)
     ·as_aux_lemma =>
      try simp at k35
      obtain ⟨f35, e⟩ := neg_on2 e (by first | simpa using k35 | grind)
      try simp at f35
      refine EV.seq (EV.seq (EV.regionG tabOK ?_))
      simp (maxSteps := 2000000) -implicitDefEqProofs
      obtain ⟨z28, e28, e⟩ := bnd_split e
      refine EV.nrm (fun v : { v : (Bool) × (Unit) // z28 = v.1 } => (fun (v28 : Bool) (g28 : Unit) => (⟨[J, J, .ptr 0 0 0 0, J, J, .b ((decide (p0.name = ([] : List UInt8))) && (rNoTy p0.ty)), .b (rNoPlace p0.p), .b (rNoRv p0.rv), .b (rNoOper p0.op), .b (decide ((p0.then_.length : Int) = 0)), .b (decide ((p0.else_.length : Int) = 0)), .b (decide ((p0.arms.length : Int) = 0)), J, J, J, J, J, J, J, J, J, J, J, J, J, J, J, J, J, J, J, J, J, J, J, J, J, J, J, J, J, J, J, J, .i .i64 p0.k, J, J, J, J, J, J, J, J, J, J, J, J, J, J, J, J, J, J, J, J, J, J, J, J, J, J, J, J, J, J, J, J, J, J, J, J, J, J, J, J, J, J, J, J, J, J, J, J, J, J, J, J, J, J, J, J, J, J, J, J, J, J, J, J, J, J, J, J, J, J, J, J, J, J, J, J, J, J, J, J, J, J, J, J, J, J, J, J, J, J, J, J, J, J, J, J, J, J, J, J, J, J, J, J, J, J, J, J, J, J, J, J, J, J, J, J, J, J, J, J, J, J, J, J, J, J, J, J, J, J, J, J, J, J, J, J, J, J, J, J, J, J, J, J, J, J, J, J, J, J, J, J, J, J, J, J, J, J, J, J, J, J, J, J, J, J, J, J, J, J, J, J, J, J, .b v28, J, J, J, J, J, J, J, J, J, J, J, J, J, J, J, J, J, J, J, J, J, J, J, J, J, J, J, J, J, J, J, J, J, J, J, J, J, J, J, J, J, J, J, J, J, J, J], [.arr 0 21 [[.i .i64 p0.k, .i .i64 p0.at_, .s p0.name, .i .i64 p0.ty.k, .s p0.ty.name, .ro 3 (p0.ty.l.map tyC), .s p0.p.name, .ro 1 (p0.p.path.map stepC), .i .i64 p0.rv.k, .ro 4 (p0.rv.ops.map operC), .s p0.rv.p.name, .ro 1 (p0.rv.p.path.map stepC), .s p0.rv.name, .s p0.rv.variant, .b p0.op.num, .i .i64 p0.op.n, .s p0.op.p.name, .ro 1 (p0.op.p.path.map stepC), .ro 21 (p0.then_.map stmtC), .ro 21 (p0.else_.map stmtC), .ro 3 (p0.arms.map armC)]]]⟩ : St)) v.1.1 v.1.2) ?_ ?_
      ·skip
       refine EV.condT ?_
       simp -implicitDefEqProofs
       refine condT_intro (fun k49 => ?_) (fun k49 => ?_)
       ·as_aux_lemma =>
        try simp at k49
        obtain ⟨f49, e28⟩ := pos_on2 e28 (by first | simpa using k49 | grind)
        try simp at f49
        refine EV.skip ?_
        simp only [thenK_normal, blockK_normal, scopeK_normal]
        refine ⟨⟨(true, ()), e28.symm⟩, ?_⟩
        try dsimp only
        refine Sub.cutF 1 (by simp) ?_ ?_ <;> simp [List.range_succ, toIdx_range, passed]
       ·as_aux_lemma =>
        try simp at k49
        obtain ⟨f49, e28⟩ := neg_on2 e28 (by first | simpa using k49 | grind)
        try simp at f49
        refine EV.seq (EV.regionG tabOK ?_)
        simp (maxSteps := 2000000) -implicitDefEqProofs
        refine EV.condT ?_
        simp -implicitDefEqProofs
        refine condT_intro (fun k50 => ?_) (fun k50 => ?_)
        ·as_aux_lemma =>
         try simp at k50
         obtain ⟨f50, e28⟩ := pos_on2 e28 (by first | simpa using k50 | grind)
         try simp at f50
         refine EV.skip ?_
         simp only [thenK_normal, blockK_normal, scopeK_normal]
         refine ⟨⟨(true, ()), e28.symm⟩, ?_⟩
         try dsimp only
         refine Sub.cutF 1 (by simp) ?_ ?_ <;> simp [List.range_succ, toIdx_range, passed]
        ·as_aux_lemma =>
         try simp at k50
         obtain ⟨f50, e28⟩ := neg_on2 e28 (by first | simpa using k50 | grind)
         try simp at f50
         refine EV.regionG tabOK ?_
         simp (maxSteps := 2000000) -implicitDefEqProofs
         refine ⟨⟨((decide (p0.k = 7)), ()), e28.symm⟩, ?_⟩
         try dsimp only
         refine Sub.cutF 1 (by simp) ?_ ?_ <;> simp [List.range_succ, toIdx_range, passed]
      rintro ⟨⟨v28, g28⟩, e28⟩
      simp only [thenK_normal, blockK_normal, scopeK_normal, bodyK_normal]
      replace e := bnd_on e e28
      try dsimp only at e
      refine EV.condT ?_
      simp -implicitDefEqProofs
      refine condT_intro (fun k51 => ?_) (fun k51 => ?_)
      ·as_aux_lemma =>
       try simp at k51
       obtain ⟨f51, e⟩ := pos_on2 e (by first | simpa using k51 | grind)
       try simp at f51
       refine EV.seq (EV.regionG tabOK ?_)
       simp (maxSteps := 2000000) -implicitDefEqProofs [-guardG_v, guardG_bt, guardG_bf]
       by_cases k52 : p0.name = ([] : List UInt8)
       ·skip
        have kk52 := k52
        try simp at kk52
        simp (maxSteps := 2000000) -implicitDefEqProofs [-guardG_v, guardG_bt, guardG_bf, k52, kk52]
        cases k53 : (rNoTy p0.ty)
        ·skip
         have kk53 := k53
         try simp at kk53
         simp (maxSteps := 2000000) -implicitDefEqProofs [-guardG_v, guardG_bt, guardG_bf, k52, kk52, k53, kk53]
         refine EV.ret ?_
         simp only [thenK_ret, blockK_ret, scopeK_ret, bodyK_ret]
         subst e
         refine Fin.pure0 ?_
         first | (simp; done) | (simp [k52, kk52, k53, kk53]; done) | (simp <;> grind)
        have kk53 := k53
        try simp at kk53
        simp (maxSteps := 2000000) -implicitDefEqProofs [-guardG_v, guardG_bt, guardG_bf, k52, kk52, k53, kk53]
        cases k54 : (rNoPlace p0.p)
        ·skip
         have kk54 := k54
         try simp at kk54
         simp (maxSteps := 2000000) -implicitDefEqProofs [-guardG_v, guardG_bt, guardG_bf, k52, kk52, k53, kk53, k54, kk54]
         refine EV.ret ?_
         simp only [thenK_ret, blockK_ret, scopeK_ret, bodyK_ret]
         subst e
         refine Fin.pure0 ?_
         first | (simp; done) | (simp [k52, kk52, k53, kk53, k54, kk54]; done) | (simp <;> grind)
        have kk54 := k54
        try simp at kk54
        simp (maxSteps := 2000000) -implicitDefEqProofs [-guardG_v, guardG_bt, guardG_bf, k52, kk52, k53, kk53, k54, kk54]
        cases k55 : (rNoRv p0.rv)
        ·skip
         have kk55 := k55
         try simp at kk55
         simp (maxSteps := 2000000) -implicitDefEqProofs [-guardG_v, guardG_bt, guardG_bf, k52, kk52, k53, kk53, k54, kk54, k55, kk55]
         refine EV.ret ?_
         simp only [thenK_ret, blockK_ret, scopeK_ret, bodyK_ret]
         subst e
         refine Fin.pure0 ?_
         first | (simp; done) | (simp [k52, kk52, k53, kk53, k54, kk54, k55, kk55]; done) | (simp <;> grind)
        have kk55 := k55
        try simp at kk55
        simp (maxSteps := 2000000) -implicitDefEqProofs [-guardG_v, guardG_bt, guardG_bf, k52, kk52, k53, kk53, k54, kk54, k55, kk55]
        refine callG_fun (w_rValidOper p0.op) ?_ ?_
        ·first | (simp; done) | (simp [-guardG_v, guardG_bt, guardG_bf, k52, kk52, k53, kk53, k54, kk54, k55, kk55]; done)
        simp (maxSteps := 2000000) -implicitDefEqProofs [-guardG_v, guardG_bt, guardG_bf, k52, kk52, k53, kk53, k54, kk54, k55, kk55]
        cases k56 : (rValidOper p0.op)
        ·skip
         have kk56 := k56
         try simp at kk56
         simp (maxSteps := 2000000) -implicitDefEqProofs [-guardG_v, guardG_bt, guardG_bf, k52, kk52, k53, kk53, k54, kk54, k55, kk55, k56, kk56]
         refine EV.ret ?_
         simp only [thenK_ret, blockK_ret, scopeK_ret, bodyK_ret]
         subst e
         refine Fin.pure0 ?_
         first | (simp; done) | (simp [k52, kk52, k53, kk53, k54, kk54, k55, kk55, k56, kk56]; done) | (simp <;> grind)
        have kk56 := k56
        try simp at kk56
        simp (maxSteps := 2000000) -implicitDefEqProofs [-guardG_v, guardG_bt, guardG_bf, k52, kk52, k53, kk53, k54, kk54, k55, kk55, k56, kk56]
        by_cases k57 : (p0.then_.length : Int) = 0
        ·skip
         have kk57 := k57
         try simp at kk57
         simp (maxSteps := 2000000) -implicitDefEqProofs [-guardG_v, guardG_bt, guardG_bf, k52, kk52, k53, kk53, k54, kk54, k55, kk55, k56, kk56, k57, kk57]
         by_cases k58 : (p0.else_.length : Int) = 0
         ·skip
          have kk58 := k58
          try simp at kk58
          simp (maxSteps := 2000000) -implicitDefEqProofs [-guardG_v, guardG_bt, guardG_bf, k52, kk52, k53, kk53, k54, kk54, k55, kk55, k56, kk56, k57, kk57, k58, kk58]
          refine EV.ret ?_
          simp only [thenK_ret, blockK_ret, scopeK_ret, bodyK_ret]
          subst e
          refine Fin.pure0 ?_
          first | (simp; done) | (simp [k52, kk52, k53, kk53, k54, kk54, k55, kk55, k56, kk56, k57, kk57, k58, kk58]; done) | (simp <;> grind)
         have kk58 := k58
         try simp at kk58
         simp (maxSteps := 2000000) -implicitDefEqProofs [-guardG_v, guardG_bt, guardG_bf, k52, kk52, k53, kk53, k54, kk54, k55, kk55, k56, kk56, k57, kk57, k58, kk58]
         refine EV.ret ?_
         simp only [thenK_ret, blockK_ret, scopeK_ret, bodyK_ret]
         subst e
         refine Fin.pure0 ?_
         first | (simp; done) | (simp [k52, kk52, k53, kk53, k54, kk54, k55, kk55, k56, kk56, k57, kk57, k58, kk58]; done) | (simp <;> grind)
        have kk57 := k57
        try simp at kk57
        simp (maxSteps := 2000000) -implicitDefEqProofs [-guardG_v, guardG_bt, guardG_bf, k52, kk52, k53, kk53, k54, kk54, k55, kk55, k56, kk56, k57, kk57]
        refine EV.ret ?_
        simp only [thenK_ret, blockK_ret, scopeK_ret, bodyK_ret]
        subst e
        refine Fin.pure0 ?_
        first | (simp; done) | (simp [k52, kk52, k53, kk53, k54, kk54, k55, kk55, k56, kk56, k57, kk57]; done) | (simp <;> grind)
       have kk52 := k52
       try simp at kk52
       simp (maxSteps := 2000000) -implicitDefEqProofs [-guardG_v, guardG_bt, guardG_bf, k52, kk52]
       refine EV.ret ?_
       simp only [thenK_ret, blockK_ret, scopeK_ret, bodyK_ret]
       subst e
       refine Fin.pure0 ?_
       first | (simp; done) | (simp [k52, kk52]; done) | (simp <;> grind)
      ·as_aux_lemma =>
       try simp at k51
       obtain ⟨f51, e⟩ := neg_on2 e (by first | simpa using k51 | grind)
       try simp at f51
       refine EV.seq (EV.regionG tabOK ?_)
       simp (maxSteps := 2000000) -implicitDefEqProofs
       refine EV.condT ?_
       simp -implicitDefEqProofs
       refine condT_intro (fun k59 => ?_) (fun k59 => ?_)
       ·as_aux_lemma =>
        try simp at k59
        obtain ⟨f59, e⟩ := pos_on2 e (by first | simpa using k59 | grind)
        try simp at f59
        refine EV.seq (EV.regionG tabOK ?_)
        simp (maxSteps := 2000000) -implicitDefEqProofs [-guardG_v, guardG_bt, guardG_bf]
        by_cases k60 : p0.name = ([] : List UInt8)
        ·skip
         have kk60 := k60
         try simp at kk60
         simp (maxSteps := 2000000) -implicitDefEqProofs [-guardG_v, guardG_bt, guardG_bf, k60, kk60]
         cases k61 : (rNoTy p0.ty)
         ·skip
          have kk61 := k61
          try simp at kk61
          simp (maxSteps := 2000000) -implicitDefEqProofs [-guardG_v, guardG_bt, guardG_bf, k60, kk60, k61, kk61]
          refine EV.ret ?_
          simp only [thenK_ret, blockK_ret, scopeK_ret, bodyK_ret]
          subst e
          refine Fin.pure0 ?_
          first | (simp; done) | (simp [k60, kk60, k61, kk61]; done) | (simp <;> grind)
         have kk61 := k61
         try simp at kk61
         simp (maxSteps := 2000000) -implicitDefEqProofs [-guardG_v, guardG_bt, guardG_bf, k60, kk60, k61, kk61]
         refine callG_fun (w_rValidPlace p0.p true) ?_ ?_
         ·first | (simp; done) | (simp [-guardG_v, guardG_bt, guardG_bf, k60, kk60, k61, kk61]; done)
         simp (maxSteps := 2000000) -implicitDefEqProofs [-guardG_v, guardG_bt, guardG_bf, k60, kk60, k61, kk61]
         cases k62 : (rValidPlace p0.p true)
         ·skip
          have kk62 := k62
          try simp at kk62
          simp (maxSteps := 2000000) -implicitDefEqProofs [-guardG_v, guardG_bt, guardG_bf, k60, kk60, k61, kk61, k62, kk62]
          refine EV.ret ?_
          simp only [thenK_ret, blockK_ret, scopeK_ret, bodyK_ret]
          subst e
          refine Fin.pure0 ?_
          first | (simp; done) | (simp [k60, kk60, k61, kk61, k62, kk62]; done) | (simp <;> grind)
         have kk62 := k62
         try simp at kk62
         simp (maxSteps := 2000000) -implicitDefEqProofs [-guardG_v, guardG_bt, guardG_bf, k60, kk60, k61, kk61, k62, kk62]
         cases k63 : (rNoRv p0.rv)
         ·skip
          have kk63 := k63
          try simp at kk63
          simp (maxSteps := 2000000) -implicitDefEqProofs [-guardG_v, guardG_bt, guardG_bf, k60, kk60, k61, kk61, k62, kk62, k63, kk63]
          refine EV.ret ?_
          simp only [thenK_ret, blockK_ret, scopeK_ret, bodyK_ret]
          subst e
          refine Fin.pure0 ?_
          first | (simp; done) | (simp [k60, kk60, k61, kk61, k62, kk62, k63, kk63]; done) | (simp <;> grind)
         have kk63 := k63
         try simp at kk63
         simp (maxSteps := 2000000) -implicitDefEqProofs [-guardG_v, guardG_bt, guardG_bf, k60, kk60, k61, kk61, k62, kk62, k63, kk63]
         cases k64 : (rNoOper p0.op)
         ·skip
          have kk64 := k64
          try simp at kk64
          simp (maxSteps := 2000000) -implicitDefEqProofs [-guardG_v, guardG_bt, guardG_bf, k60, kk60, k61, kk61, k62, kk62, k63, kk63, k64, kk64]
          refine EV.ret ?_
          simp only [thenK_ret, blockK_ret, scopeK_ret, bodyK_ret]
          subst e
          refine Fin.pure0 ?_
          first | (simp; done) | (simp [k60, kk60, k61, kk61, k62, kk62, k63, kk63, k64, kk64]; done) | (simp <;> grind)
         have kk64 := k64
         try simp at kk64
         simp (maxSteps := 2000000) -implicitDefEqProofs [-guardG_v, guardG_bt, guardG_bf, k60, kk60, k61, kk61, k62, kk62, k63, kk63, k64, kk64]
         by_cases k65 : (p0.then_.length : Int) = 0
         ·skip
          have kk65 := k65
          try simp at kk65
          simp (maxSteps := 2000000) -implicitDefEqProofs [-guardG_v, guardG_bt, guardG_bf, k60, kk60, k61, kk61, k62, kk62, k63, kk63, k64, kk64, k65, kk65]
          by_cases k66 : (p0.else_.length : Int) = 0
          ·skip
           have kk66 := k66
           try simp at kk66
           simp (maxSteps := 2000000) -implicitDefEqProofs [-guardG_v, guardG_bt, guardG_bf, k60, kk60, k61, kk61, k62, kk62, k63, kk63, k64, kk64, k65, kk65, k66, kk66]
           refine EV.ret ?_
           simp only [thenK_ret, blockK_ret, scopeK_ret, bodyK_ret]
           subst e
           refine Fin.pure0 ?_
           first | (simp; done) | (simp [k60, kk60, k61, kk61, k62, kk62, k63, kk63, k64, kk64, k65, kk65, k66, kk66]; done) | (simp <;> grind)
          have kk66 := k66
          try simp at kk66
          simp (maxSteps := 2000000) -implicitDefEqProofs [-guardG_v, guardG_bt, guardG_bf, k60, kk60, k61, kk61, k62, kk62, k63, kk63, k64, kk64, k65, kk65, k66, kk66]
          refine EV.ret ?_
          simp only [thenK_ret, blockK_ret, scopeK_ret, bodyK_ret]
          subst e
          refine Fin.pure0 ?_
          first | (simp; done) | (simp [k60, kk60, k61, kk61, k62, kk62, k63, kk63, k64, kk64, k65, kk65, k66, kk66]; done) | (simp <;> grind)
         have kk65 := k65
         try simp at kk65
         simp (maxSteps := 2000000) -implicitDefEqProofs [-guardG_v, guardG_bt, guardG_bf, k60, kk60, k61, kk61, k62, kk62, k63, kk63, k64, kk64, k65, kk65]
         refine EV.ret ?_
         simp only [thenK_ret, blockK_ret, scopeK_ret, bodyK_ret]
         subst e
         refine Fin.pure0 ?_
         first | (simp; done) | (simp [k60, kk60, k61, kk61, k62, kk62, k63, kk63, k64, kk64, k65, kk65]; done) | (simp <;> grind)
        have kk60 := k60
        try simp at kk60
        simp (maxSteps := 2000000) -implicitDefEqProofs [-guardG_v, guardG_bt, guardG_bf, k60, kk60]
        refine EV.ret ?_
        simp only [thenK_ret, blockK_ret, scopeK_ret, bodyK_ret]
        subst e
        refine Fin.pure0 ?_
        first | (simp; done) | (simp [k60, kk60]; done) | (simp <;> grind)
       ·as_aux_lemma =>
        try simp at k59
        obtain ⟨f59, e⟩ := neg_on2 e (by first | simpa using k59 | grind)
        try simp at f59
        refine EV.skip ?_
        simp only [thenK_normal, blockK_normal, scopeK_normal]
        refine EV.seq (EV.regionG tabOK ?_)
        simp (maxSteps := 2000000) -implicitDefEqProofs
        refine EV.ret ?_
        simp only [thenK_ret, blockK_ret, scopeK_ret, bodyK_ret]
        subst e
        refine Fin.pure0 ?_
        first | (simp; done) | (simp; done) | (simp <;> grind)

mutual
def rValidBlock_f : Nat → (List StmtD) → Int → Bool
 | 0, _, _ => default
 | k + 1, p0, p1 => rValidBlock_b (rValidBlock_f k) (rValidStmt_f k) p0 p1
def rValidStmt_f : Nat → StmtD → Int → Bool
 | 0, _, _ => default
 | k + 1, p0, p1 => rValidStmt_b (rValidBlock_f k) (rValidStmt_f k) p0 p1
end
def rValidBlock (p0 : List StmtD) (p1 : Int) : Bool := rValidBlock_f (SizeOf.sizeOf p0 + 1) p0 p1
def rValidStmt (p0 : StmtD) (p1 : Int) : Bool := rValidStmt_f (SizeOf.sizeOf p0 + 1) p0 p1
theorem w_rValidBlock_rValidStmt_f : ∀ k : Nat, (∀ (p0 : List StmtD) (p1 : Int), SizeOf.sizeOf p0 < k → QC prog 43 [.ro 21 (p0.map stmtC), .i .i64 p1] [] (.b (rValidBlock_f k p0 p1)) []) ∧ (∀ (p0 : StmtD) (p1 : Int), SizeOf.sizeOf p0 < k → QC prog 105 [.agg [.i .i64 p0.k, .i .i64 p0.at_, .s p0.name, .i .i64 p0.ty.k, .s p0.ty.name, .ro 3 (p0.ty.l.map tyC), .s p0.p.name, .ro 1 (p0.p.path.map stepC), .i .i64 p0.rv.k, .ro 4 (p0.rv.ops.map operC), .s p0.rv.p.name, .ro 1 (p0.rv.p.path.map stepC), .s p0.rv.name, .s p0.rv.variant, .b p0.op.num, .i .i64 p0.op.n, .s p0.op.p.name, .ro 1 (p0.op.p.path.map stepC), .ro 21 (p0.then_.map stmtC), .ro 21 (p0.else_.map stmtC), .ro 3 (p0.arms.map armC)], .i .i64 p1] [] (.b (rValidStmt_f k p0 p1)) [])
 | 0 => by refine ⟨(fun _ _ h => absurd h (Nat.not_lt_zero _)), (fun _ _ h => absurd h (Nat.not_lt_zero _))⟩
 | k + 1 => by refine ⟨(fun p0 p1 h => by rw [rValidBlock_f]; exact w_rValidBlock_b (rValidBlock_f k) (rValidStmt_f k) p0 p1 k (w_rValidBlock_rValidStmt_f k).1 (w_rValidBlock_rValidStmt_f k).2 (by omega)), (fun p0 p1 h => by rw [rValidStmt_f]; exact w_rValidStmt_b (rValidBlock_f k) (rValidStmt_f k) p0 p1 k (w_rValidBlock_rValidStmt_f k).1 (w_rValidBlock_rValidStmt_f k).2 (by omega))⟩
theorem w_rValidBlock (p0 : List StmtD) (p1 : Int) : QC prog 43 [.ro 21 (p0.map stmtC), .i .i64 p1] [] (.b (rValidBlock p0 p1)) [] := (w_rValidBlock_rValidStmt_f (SizeOf.sizeOf p0 + 1)).1 p0 p1 (Nat.lt_succ_self _)
theorem w_rValidStmt (p0 : StmtD) (p1 : Int) : QC prog 105 [.agg [.i .i64 p0.k, .i .i64 p0.at_, .s p0.name, .i .i64 p0.ty.k, .s p0.ty.name, .ro 3 (p0.ty.l.map tyC), .s p0.p.name, .ro 1 (p0.p.path.map stepC), .i .i64 p0.rv.k, .ro 4 (p0.rv.ops.map operC), .s p0.rv.p.name, .ro 1 (p0.rv.p.path.map stepC), .s p0.rv.name, .s p0.rv.variant, .b p0.op.num, .i .i64 p0.op.n, .s p0.op.p.name, .ro 1 (p0.op.p.path.map stepC), .ro 21 (p0.then_.map stmtC), .ro 21 (p0.else_.map stmtC), .ro 3 (p0.arms.map armC)], .i .i64 p1] [] (.b (rValidStmt p0 p1)) [] := (w_rValidBlock_rValidStmt_f (SizeOf.sizeOf p0 + 1)).2 p0 p1 (Nat.lt_succ_self _)
end
end Go.Proofs.Tryz
end
