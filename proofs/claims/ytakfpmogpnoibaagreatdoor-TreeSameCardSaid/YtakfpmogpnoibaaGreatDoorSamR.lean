/- Contracts of the document's functions that compare two sources. -/
import Derived.Test.YtakfpmogpnoibaaGreatDoorRefA
set_option linter.unusedVariables false
set_option linter.unusedSimpArgs false
set_option linter.constructorNameAsVariable false
section
namespace Go.Proofs.Tryz
open Go Go.AM
attribute [local simp] wpG_op wpG_nil contG_some wpG_guard guardG_v guardG_o guardG_tup gval pureOp stepG_if isPick pickG_pick pickB_b pickOK isCall step_move step_assign step_alloc step_box boxV_some step_load step_store step_binOp step_unOp step_fieldAddr faV step_indexAddr ixA_slc ixA_arr step_extract extV_tup step_nilCheck ncV_ptr ncV_rp ncV_fn ncV_mp step_build buildV step_buildSlice bsV step_index ixV_arr ixV_str step_append apB step_makeSlice msV_i step_makeFunc over step_len step_makeMap mmV step_mapUpdate step_insert muA_map muB_mp step_lookup lkA_map lkB_mp step_slice slcV_s slcV_sl slcV_ro cutB_some slObV_arr bound_none bound_some bndV_i lenB_str lenB_ro lenB_sl lenB_nil lenB_z ld_ptr ld_rp offV_ptr offV_rp idxV_ro idxV_sl unV_not unV_neg binV_int binV_str binV_eqlb binV_neqb intOp strOp St.put updL setOb St.ev toV St.lk cellsOf AM.valOf TK.agg stv fillV places TI.zero condT_true condT_false finS resL resSlot packV ren ren1 ren0 Value.cells builtinV appendV elemsOf keepT room_of wrap_in toIdx passed Function.comp_def take_len_map lenV touchOf hid tab1 tab2 tab3 tab4 tab5 tab6 tab7 tab8 tab9 tab20 tab22 tab23 tab24 tab26 tab32 tab33 tab35 tab36 tab37 tab39 tab41 tab42 tab43 tab45 tab46 tab47 tab49 tab50 tab52 tab57 tab58 tab60 tab63 tab65 tab66 tab68 tab70 tab74 tab79 tab83 tab86 tab87 tab89 tab92 tab100 tab101 tab102 tab103 tab105 tab107 tab108 tab113 tab114 tab116 tab117 tab118 tab122 tab123 tab125 tab127 tab130 tab132 tab136 tab138 tab139 tab141 tab142 tab144 tab146 tab148 tab173 tab175 tab178 tab179 tab180 tab182 tab189 tab215 tab219 tab220 tab224 tab225 tab241 tab244 tab247 tab253 tab261 tab262 tab265 tab266 armC_eq blockC_eq bodyC_eq enumC_eq fieldC_eq fnC_eq inC_eq localC_eq mirBodyC_eq operC_eq placeC_eq rvC_eq sourceC_eq spotC_eq stepC_eq stmtC_eq structC_eq tmC_eq tyC_eq useC_eq valueC_eq variantC_eq binV_eqls binV_neqs cutL_nil cutL_junk cutL_cons ren_arr ren_gone ren_unborn ren_var ren_row step_convert cvV_i cvV_sl cvV_s cvK_slc cvE_u8 bytesOf bor1 bor2 bor3 bor4
set_option linter.unusedSimpArgs false
set_option linter.unusedVariables false
set_option maxRecDepth 10000
set_option maxHeartbeats 4000000
noncomputable section
def rSamePlace_l4 (p1 : PlaceD) : List StepD → Nat → Ctl (Bool) (Unit)
 | [], _ => .go ()
 | x4 :: xs4, j4 => (bnd (p1.path.getD j4 default) fun (y6_8 : StepD) => (if ¬ (x4.field = y6_8.field) then .ret false else rSamePlace_l4 p1 xs4 (j4 + 1)))
def rSamePlace (p0 : PlaceD) (p1 : PlaceD) : Bool :=
 (if (¬ (p0.name = p1.name)) ∨ (¬ ((p0.path.length : Int) = (p1.path.length : Int))) then false else (Ctl.run (rSamePlace_l4 p1 p0.path 0) fun (v4 : Unit) => true))
set_option maxHeartbeats 40000000 in
theorem w_rSamePlace (p0 : PlaceD) (p1 : PlaceD)  : QC prog 166 [.agg [.s p0.name, .ro 1 (p0.path.map stepC)], .agg [.s p1.name, .ro 1 (p1.path.map stepC)]] [] (.b (rSamePlace p0 p1)) [] := by
 refine QC.of_body tabOK func166 rfl (by kernel_rfl) ?_
 simp only [f166]
 generalize e : rSamePlace p0 p1 = R
 unfold rSamePlace at e
 refine EV.seq (EV.regionG tabOK ?_)
 simp (maxSteps := 2000000) -implicitDefEqProofs
 refine EV.seq (EV.seq (EV.regionG tabOK ?_))
 simp (maxSteps := 2000000) -implicitDefEqProofs +contextual
 refine EV.condT ?_
 simp -implicitDefEqProofs
 refine condT_intro (fun k1 => ?_) (fun k1 => ?_)
 ·try simp at k1
  obtain ⟨f1, e⟩ := pos_on2 e (by first | simpa using k1 | grind)
  try simp at f1
  refine EV.seq (EV.regionG tabOK ?_)
  simp (maxSteps := 2000000) -implicitDefEqProofs
  refine EV.ret ?_
  simp only [thenK_ret, blockK_ret, scopeK_ret, bodyK_ret]
  subst e
  refine Fin.pure0 ?_
  first | (simp; done) | (simp <;> grind)
 try simp at k1
 obtain ⟨f1, e⟩ := neg_on2 e (by first | simpa using k1 | grind)
 try simp at f1
 refine EV.skip ?_
 simp only [thenK_normal, blockK_normal, scopeK_normal]
 refine EV.seq (EV.seq (EV.regionG tabOK ?_))
 simp (maxSteps := 2000000) -implicitDefEqProofs
 obtain ⟨z4, e4, e⟩ := run_split e
 refine EV.nrm (fun v : { v : (Unit) × (Unit) // z4 = .go v.1 } => (fun (v4 : Unit) (g4 : Unit) => (⟨[J, J, J, J, J, J, J, J, J, J, J, J, J, J, J, J, J, J, J, J, J, J, J, J, J, J, J, J, J, J, J, J, J, J, J, J, J, J], []⟩ : St)) v.1.1 v.1.2) ?_ ?_
 ·skip
  refine EV.block ?_
  refine EV.loopB (fun x : { x : Nat // x ≤ p0.path.length ∧ rSamePlace_l4 p1 (p0.path.drop x) x = z4 } => (fun (j4 : Nat) => (⟨[J, J, .ptr 0 0 0 0, .ptr 1 0 0 0, J, .i .i64 (j4 : Int), J, J, J, J, J, J, J, J, J, J, J, J, J, J, J, J, J, J, J, J, J, J, J, J, J, J, J, J, J, J, J, J], [.arr 0 2 [[.s p0.name, .ro 1 (p0.path.map stepC)]], .arr 0 2 [[.s p1.name, .ro 1 (p1.path.map stepC)]]]⟩ : St)) x.1) (fun x => p0.path.length - x.1) ⟨0, Nat.zero_le _, e4⟩ ?_ ?_
  ·skip
   try dsimp only
   try dsimp only
   refine Sub.cutF 2 (by simp) ?_ ?_ <;> simp [List.range_succ, toIdx_range, passed]
  rintro ⟨j4, hi4, e4⟩
  simp only at hi4 e4 ⊢
  refine EV.seq (EV.seq (EV.regionG tabOK ?_))
  simp (maxSteps := 2000000) -implicitDefEqProofs
  refine EV.room 22 (by rfl) (fun mj4 => ?_)
  simp at mj4
  refine EV.condT ?_
  simp -implicitDefEqProofs
  refine condT_intro (fun k2 => ?_) (fun k2 => ?_)
  ·try simp at k2
   have u2 : j4 < p0.path.length := by omega
   obtain ⟨x4, hx4⟩ : ∃ z, p0.path[j4] = z := ⟨_, rfl⟩
   have mx4 : x4 ∈ p0.path := by rw [← hx4]; exact List.getElem_mem _
   rw [List.drop_eq_getElem_cons u2, hx4, rSamePlace_l4] at e4
   refine EV.skip ?_
   simp only [thenK_normal, blockK_normal, scopeK_normal]
   refine EV.seq (EV.block (EV.seq ?_))
   obtain ⟨y6_8, gy6_8⟩ : ∃ z, (p1.path.getD j4 default) = z := ⟨_, rfl⟩
   replace e4 := bnd_on e4 gy6_8
   try dsimp only at e4
   have b3 : 0 ≤ (j4 : Int) ∧ (j4 : Int) < (p1.path.length : Int) := by omega
   have c3 : j4 < p1.path.length := by omega
   have hy6_8 : p1.path[j4] = y6_8 := by rw [← gy6_8, List.getD_eq_getElem?_getD, List.getElem?_eq_getElem c3]; rfl
   have my6_8 : y6_8 ∈ p1.path := by rw [← hy6_8]; exact List.getElem_mem _
   refine EV.drawG tabOK mixedOK ?_
   simp (maxSteps := 2000000) -implicitDefEqProofs [k2, u2, hx4, b3, c3, hy6_8]
   refine And.intro ?_ ?_
   ·first | decide +kernel | (simp -implicitDefEqProofs; decide +kernel) | (split <;> decide +kernel)
   try simp -implicitDefEqProofs
   refine EV.condT ?_
   simp -implicitDefEqProofs [k2, u2, hx4, b3, c3, hy6_8]
   refine condT_intro (fun k4 => ?_) (fun k4 => ?_)
   ·try simp at k4
    obtain ⟨f4, e4⟩ := pos_on2 e4 (by first | simpa using k4 | grind)
    try simp at f4
    refine EV.seq (EV.regionG tabOK ?_)
    simp (maxSteps := 2000000) -implicitDefEqProofs [k2, u2, hx4, b3, c3, hy6_8]
    refine EV.ret ?_
    simp only [thenK_ret, blockK_ret, scopeK_ret, bodyK_ret]
    replace e := run_back e e4
    subst e
    refine Fin.pure0 ?_
    first | (simp; done) | (simp <;> grind)
   try simp at k4
   obtain ⟨f4, e4⟩ := neg_on2 e4 (by first | simpa using k4 | grind)
   try simp at f4
   refine EV.skip ?_
   simp only [thenK_normal, blockK_normal, scopeK_normal]
   refine EV.regionG tabOK ?_
   simp (maxSteps := 2000000) -implicitDefEqProofs [k2, u2, hx4, b3, c3, hy6_8]
   have w4 : IntKind.i64.wrap ((j4 : Int) + 1) = (j4 : Int) + 1 := wrap_in _ (by omega) (by omega)
   refine ⟨⟨j4 + 1, by omega, e4⟩, by dsimp only; omega, ?_⟩
   try dsimp only
   refine Sub.cutF 2 (by simp) ?_ ?_ <;> simp [List.range_succ, toIdx_range, passed, k2, u2, hx4, b3, c3, hy6_8, w4]
  try simp at k2
  have d2 : p0.path.drop j4 = [] := List.drop_eq_nil_of_le (by omega)
  rw [d2, rSamePlace_l4] at e4
  refine EV.exit ?_
  simp -implicitDefEqProofs
  refine ⟨⟨((), ()), e4.symm⟩, ?_⟩
  try dsimp only
  refine Sub.cutF 0 (by simp) ?_ ?_ <;> simp [List.range_succ, toIdx_range, passed]
 rintro ⟨⟨v4, g4⟩, e4⟩
 simp only [thenK_normal, blockK_normal, scopeK_normal, bodyK_normal]
 replace e := run_on e e4
 try dsimp only at e
 refine EV.seq (EV.regionG tabOK ?_)
 simp (maxSteps := 2000000) -implicitDefEqProofs
 refine EV.ret ?_
 simp only [thenK_ret, blockK_ret, scopeK_ret, bodyK_ret]
 subst e
 refine Fin.pure0 ?_
 first | (simp; done) | (simp <;> grind)


def rSameOper (p0 : OperD) (p1 : OperD) : Bool :=
 (((rSamePlace p0.p p1.p) && (p0.num == p1.num)) && (decide (p0.n = p1.n)))
set_option maxHeartbeats 40000000 in
theorem w_rSameOper (p0 : OperD) (p1 : OperD)  : QC prog 168 [.agg [.b p0.num, .i .i64 p0.n, .s p0.p.name, .ro 1 (p0.p.path.map stepC)], .agg [.b p1.num, .i .i64 p1.n, .s p1.p.name, .ro 1 (p1.p.path.map stepC)]] [] (.b (rSameOper p0 p1)) [] := by
 refine QC.of_body tabOK func168 rfl (by kernel_rfl) ?_
 simp only [f168]
 generalize e : rSameOper p0 p1 = R
 unfold rSameOper at e
 refine EV.seq (EV.regionG tabOK ?_)
 simp (maxSteps := 2000000) -implicitDefEqProofs
 refine EV.seq (EV.regionG tabOK ?_)
 simp (maxSteps := 2000000) -implicitDefEqProofs
 refine callG_fun (w_rSamePlace p0.p p1.p) ?_ ?_
 ·simp
 simp (maxSteps := 2000000) -implicitDefEqProofs
 refine EV.seq (EV.regionG tabOK ?_)
 simp (maxSteps := 2000000) -implicitDefEqProofs +contextual
 refine EV.ret ?_
 simp only [thenK_ret, blockK_ret, scopeK_ret, bodyK_ret]
 subst e
 refine Fin.pure0 ?_
 first | (simp; done) | (simp <;> grind)

def rSameRv_l5 (p1 : RvD) : List OperD → Nat → Ctl (Bool) (Unit)
 | [], _ => .go ()
 | x5 :: xs5, j5 => (bnd (p1.ops.getD j5 default) fun (y7_8 : OperD) => (if ¬ ((rSameOper x5 y7_8) = true) then .ret false else rSameRv_l5 p1 xs5 (j5 + 1)))
def rSameRv (p0 : RvD) (p1 : RvD) : Bool :=
 (if ((((¬ ((rSamePlace p0.p p1.p) = true)) ∨ (¬ (p0.k = p1.k))) ∨ (¬ (p0.name = p1.name))) ∨ (¬ (p0.variant = p1.variant))) ∨ (¬ ((p0.ops.length : Int) = (p1.ops.length : Int))) then false else (Ctl.run (rSameRv_l5 p1 p0.ops 0) fun (v5 : Unit) => true))
set_option maxHeartbeats 40000000 in
theorem w_rSameRv (p0 : RvD) (p1 : RvD)  : QC prog 167 [.agg [.i .i64 p0.k, .ro 4 (p0.ops.map operC), .s p0.p.name, .ro 1 (p0.p.path.map stepC), .s p0.name, .s p0.variant], .agg [.i .i64 p1.k, .ro 4 (p1.ops.map operC), .s p1.p.name, .ro 1 (p1.p.path.map stepC), .s p1.name, .s p1.variant]] [] (.b (rSameRv p0 p1)) [] := by
 refine QC.of_body tabOK func167 rfl (by kernel_rfl) ?_
 simp only [f167]
 generalize e : rSameRv p0 p1 = R
 unfold rSameRv at e
 refine EV.seq (EV.regionG tabOK ?_)
 simp (maxSteps := 2000000) -implicitDefEqProofs
 refine EV.seq (EV.regionG tabOK ?_)
 simp (maxSteps := 2000000) -implicitDefEqProofs
 refine callG_fun (w_rSamePlace p0.p p1.p) ?_ ?_
 ·simp
 simp (maxSteps := 2000000) -implicitDefEqProofs
 refine EV.seq (EV.seq (EV.regionG tabOK ?_))
 simp (maxSteps := 2000000) -implicitDefEqProofs +contextual
 refine EV.condT ?_
 simp -implicitDefEqProofs
 refine condT_intro (fun k1 => ?_) (fun k1 => ?_)
 ·try simp at k1
  obtain ⟨f1, e⟩ := pos_on2 e (by first | simpa using k1 | grind)
  try simp at f1
  refine EV.seq (EV.regionG tabOK ?_)
  simp (maxSteps := 2000000) -implicitDefEqProofs
  refine EV.ret ?_
  simp only [thenK_ret, blockK_ret, scopeK_ret, bodyK_ret]
  subst e
  refine Fin.pure0 ?_
  first | (simp; done) | (simp <;> grind)
 try simp at k1
 obtain ⟨f1, e⟩ := neg_on2 e (by first | simpa using k1 | grind)
 try simp at f1
 refine EV.skip ?_
 simp only [thenK_normal, blockK_normal, scopeK_normal]
 refine EV.seq (EV.seq (EV.regionG tabOK ?_))
 simp (maxSteps := 2000000) -implicitDefEqProofs
 obtain ⟨z5, e5, e⟩ := run_split e
 refine EV.nrm (fun v : { v : (Unit) × (Unit) // z5 = .go v.1 } => (fun (v5 : Unit) (g5 : Unit) => (⟨[J, J, J, J, J, J, J, J, J, J, J, J, J, J, J, J, J, J, J, J, J, J, J, J, J, J, J, J, J, J, J, J, J, J, J, J, J, J, J, J, J, J, J, J, J, J, J, J, J, J, J, J, J, J, J, J, J, J, J, J, J, J, J, J, J], []⟩ : St)) v.1.1 v.1.2) ?_ ?_
 ·skip
  refine EV.block ?_
  refine EV.loopB (fun x : { x : Nat // x ≤ p0.ops.length ∧ rSameRv_l5 p1 (p0.ops.drop x) x = z5 } => (fun (j5 : Nat) => (⟨[J, J, .ptr 0 0 0 0, .ptr 1 0 0 0, J, J, .i .i64 (j5 : Int), J, J, J, J, J, J, J, J, J, J, J, J, J, J, J, J, J, J, J, J, J, J, J, J, J, J, J, J, J, J, J, J, J, J, J, J, J, J, J, J, J, J, J, J, J, J, J, J, J, J, J, J, J, J, J, J, J, J], [.arr 0 6 [[.i .i64 p0.k, .ro 4 (p0.ops.map operC), .s p0.p.name, .ro 1 (p0.p.path.map stepC), .s p0.name, .s p0.variant]], .arr 0 6 [[.i .i64 p1.k, .ro 4 (p1.ops.map operC), .s p1.p.name, .ro 1 (p1.p.path.map stepC), .s p1.name, .s p1.variant]]]⟩ : St)) x.1) (fun x => p0.ops.length - x.1) ⟨0, Nat.zero_le _, e5⟩ ?_ ?_
  ·skip
   try dsimp only
   try dsimp only
   refine Sub.cutF 2 (by simp) ?_ ?_ <;> simp [List.range_succ, toIdx_range, passed]
  rintro ⟨j5, hi5, e5⟩
  simp only at hi5 e5 ⊢
  refine EV.seq (EV.seq (EV.regionG tabOK ?_))
  simp (maxSteps := 2000000) -implicitDefEqProofs
  refine EV.room 47 (by rfl) (fun mj5 => ?_)
  simp at mj5
  refine EV.condT ?_
  simp -implicitDefEqProofs
  refine condT_intro (fun k2 => ?_) (fun k2 => ?_)
  ·try simp at k2
   have u2 : j5 < p0.ops.length := by omega
   obtain ⟨x5, hx5⟩ : ∃ z, p0.ops[j5] = z := ⟨_, rfl⟩
   have mx5 : x5 ∈ p0.ops := by rw [← hx5]; exact List.getElem_mem _
   rw [List.drop_eq_getElem_cons u2, hx5, rSameRv_l5] at e5
   refine EV.skip ?_
   simp only [thenK_normal, blockK_normal, scopeK_normal]
   refine EV.seq (EV.block (EV.seq ?_))
   obtain ⟨y7_8, gy7_8⟩ : ∃ z, (p1.ops.getD j5 default) = z := ⟨_, rfl⟩
   replace e5 := bnd_on e5 gy7_8
   try dsimp only at e5
   have b3 : 0 ≤ (j5 : Int) ∧ (j5 : Int) < (p1.ops.length : Int) := by omega
   have c3 : j5 < p1.ops.length := by omega
   have hy7_8 : p1.ops[j5] = y7_8 := by rw [← gy7_8, List.getD_eq_getElem?_getD, List.getElem?_eq_getElem c3]; rfl
   have my7_8 : y7_8 ∈ p1.ops := by rw [← hy7_8]; exact List.getElem_mem _
   refine EV.drawG tabOK mixedOK ?_
   simp (maxSteps := 2000000) -implicitDefEqProofs [k2, u2, hx5, b3, c3, hy7_8]
   refine callG_fun (w_rSameOper x5 y7_8) ?_ ?_
   ·first | (simp; done) | (simp [k2, u2, hx5, b3, c3, hy7_8]; done)
   simp (maxSteps := 2000000) -implicitDefEqProofs [k2, u2, hx5, b3, c3, hy7_8]
   refine And.intro ?_ ?_
   ·first | decide +kernel | (simp -implicitDefEqProofs; decide +kernel) | (split <;> decide +kernel)
   try simp -implicitDefEqProofs
   refine EV.seq (EV.regionG tabOK ?_)
   simp (maxSteps := 2000000) -implicitDefEqProofs [k2, u2, hx5, b3, c3, hy7_8]
   refine EV.condT ?_
   simp -implicitDefEqProofs [k2, u2, hx5, b3, c3, hy7_8]
   refine condT_intro (fun k4 => ?_) (fun k4 => ?_)
   ·try simp at k4
    obtain ⟨f4, e5⟩ := pos_on2 e5 (by first | simpa using k4 | grind)
    try simp at f4
    refine EV.seq (EV.regionG tabOK ?_)
    simp (maxSteps := 2000000) -implicitDefEqProofs [k2, u2, hx5, b3, c3, hy7_8]
    refine EV.ret ?_
    simp only [thenK_ret, blockK_ret, scopeK_ret, bodyK_ret]
    replace e := run_back e e5
    subst e
    refine Fin.pure0 ?_
    first | (simp; done) | (simp <;> grind)
   try simp at k4
   obtain ⟨f4, e5⟩ := neg_on2 e5 (by first | simpa using k4 | grind)
   try simp at f4
   refine EV.skip ?_
   simp only [thenK_normal, blockK_normal, scopeK_normal]
   refine EV.regionG tabOK ?_
   simp (maxSteps := 2000000) -implicitDefEqProofs [k2, u2, hx5, b3, c3, hy7_8]
   have w5 : IntKind.i64.wrap ((j5 : Int) + 1) = (j5 : Int) + 1 := wrap_in _ (by omega) (by omega)
   refine ⟨⟨j5 + 1, by omega, e5⟩, by dsimp only; omega, ?_⟩
   try dsimp only
   refine Sub.cutF 2 (by simp) ?_ ?_ <;> simp [List.range_succ, toIdx_range, passed, k2, u2, hx5, b3, c3, hy7_8, w5]
  try simp at k2
  have d2 : p0.ops.drop j5 = [] := List.drop_eq_nil_of_le (by omega)
  rw [d2, rSameRv_l5] at e5
  refine EV.exit ?_
  simp -implicitDefEqProofs
  refine ⟨⟨((), ()), e5.symm⟩, ?_⟩
  try dsimp only
  refine Sub.cutF 0 (by simp) ?_ ?_ <;> simp [List.range_succ, toIdx_range, passed]
 rintro ⟨⟨v5, g5⟩, e5⟩
 simp only [thenK_normal, blockK_normal, scopeK_normal, bodyK_normal]
 replace e := run_on e e5
 try dsimp only at e
 refine EV.seq (EV.regionG tabOK ?_)
 simp (maxSteps := 2000000) -implicitDefEqProofs
 refine EV.ret ?_
 simp only [thenK_ret, blockK_ret, scopeK_ret, bodyK_ret]
 subst e
 refine Fin.pure0 ?_
 first | (simp; done) | (simp <;> grind)

def rSameFields_l4 (p1 : List FieldD) : List FieldD → Nat → Ctl (Bool) (Unit)
 | [], _ => .go ()
 | x4 :: xs4, j4 => (bnd (p1.getD j4 default) fun (y6_7 : FieldD) => (if (¬ ((rSameTy x4.ty y6_7.ty) = true)) ∨ (¬ (x4.name = y6_7.name)) then .ret false else rSameFields_l4 p1 xs4 (j4 + 1)))
def rSameFields (p0 : List FieldD) (p1 : List FieldD) : Bool :=
 (if ¬ ((p0.length : Int) = (p1.length : Int)) then false else (Ctl.run (rSameFields_l4 p1 p0 0) fun (v4 : Unit) => true))
set_option maxHeartbeats 40000000 in
theorem w_rSameFields (p0 : List FieldD) (p1 : List FieldD)  : QC prog 36 [.ro 4 (p0.map fieldC), .ro 4 (p1.map fieldC)] [] (.b (rSameFields p0 p1)) [] := by
 refine QC.of_body tabOK func36 rfl (by kernel_rfl) ?_
 simp only [f36]
 generalize e : rSameFields p0 p1 = R
 unfold rSameFields at e
 refine EV.seq (EV.regionG tabOK ?_)
 simp (maxSteps := 2000000) -implicitDefEqProofs
 refine EV.seq (EV.seq (EV.regionG tabOK ?_))
 simp (maxSteps := 2000000) -implicitDefEqProofs
 refine EV.condT ?_
 simp -implicitDefEqProofs
 refine condT_intro (fun k1 => ?_) (fun k1 => ?_)
 ·try simp at k1
  obtain ⟨f1, e⟩ := pos_on2 e (by first | simpa using k1 | grind)
  try simp at f1
  refine EV.seq (EV.regionG tabOK ?_)
  simp (maxSteps := 2000000) -implicitDefEqProofs
  refine EV.ret ?_
  simp only [thenK_ret, blockK_ret, scopeK_ret, bodyK_ret]
  subst e
  refine Fin.pure0 ?_
  first | (simp; done) | (simp <;> grind)
 ·try simp at k1
  obtain ⟨f1, e⟩ := neg_on2 e (by first | simpa using k1 | grind)
  try simp at f1
  refine EV.skip ?_
  simp only [thenK_normal, blockK_normal, scopeK_normal]
  refine EV.seq (EV.seq (EV.regionG tabOK ?_))
  simp (maxSteps := 2000000) -implicitDefEqProofs
  obtain ⟨z4, e4, e⟩ := run_split e
  refine EV.nrm (fun v : { v : (Unit) × (Unit) // z4 = .go v.1 } => (fun (v4 : Unit) (g4 : Unit) => (⟨[J, J, J, J, J, J, J, J, J, J, J, J, J, J, J, J, J, J, J, J, J, J, J, J, J, J, J, J, J, J, J, J, J, J, J, J, J, J, J, J, J, J, J, J], []⟩ : St)) v.1.1 v.1.2) ?_ ?_
  ·skip
   refine EV.block ?_
   refine EV.loopB (fun x : { x : Nat // x ≤ p0.length ∧ rSameFields_l4 p1 (p0.drop x) x = z4 } => (fun (j4 : Nat) => (⟨[.ro 4 (p0.map fieldC), .ro 4 (p1.map fieldC), J, J, J, .i .i64 (j4 : Int), J, J, J, J, J, J, J, J, J, J, J, J, J, J, J, J, J, J, J, J, J, J, J, J, J, J, J, J, J, J, J, J, J, J, J, J, J, J], []⟩ : St)) x.1) (fun x => p0.length - x.1) ⟨0, Nat.zero_le _, e4⟩ ?_ ?_
   ·skip
    try dsimp only
    try dsimp only
    refine Sub.cutF 0 (by simp) ?_ ?_ <;> simp [List.range_succ, toIdx_range, passed]
   rintro ⟨j4, hi4, e4⟩
   simp only at hi4 e4 ⊢
   refine EV.seq (EV.seq (EV.regionG tabOK ?_))
   simp (maxSteps := 2000000) -implicitDefEqProofs
   refine EV.room 0 (by rfl) (fun mj4 => ?_)
   simp at mj4
   refine EV.condT ?_
   simp -implicitDefEqProofs
   refine condT_intro (fun k2 => ?_) (fun k2 => ?_)
   ·try simp at k2
    have u2 : j4 < p0.length := by omega
    obtain ⟨x4, hx4⟩ : ∃ z, p0[j4] = z := ⟨_, rfl⟩
    have mx4 : x4 ∈ p0 := by rw [← hx4]; exact List.getElem_mem _
    rw [List.drop_eq_getElem_cons u2, hx4, rSameFields_l4] at e4
    refine EV.skip ?_
    simp only [thenK_normal, blockK_normal, scopeK_normal]
    refine EV.seq (EV.block (EV.seq ?_))
    obtain ⟨y6_7, gy6_7⟩ : ∃ z, (p1.getD j4 default) = z := ⟨_, rfl⟩
    replace e4 := bnd_on e4 gy6_7
    try dsimp only at e4
    have b3 : 0 ≤ (j4 : Int) ∧ (j4 : Int) < (p1.length : Int) := by omega
    have c3 : j4 < p1.length := by omega
    have hy6_7 : p1[j4] = y6_7 := by rw [← gy6_7, List.getD_eq_getElem?_getD, List.getElem?_eq_getElem c3]; rfl
    have my6_7 : y6_7 ∈ p1 := by rw [← hy6_7]; exact List.getElem_mem _
    refine EV.drawG tabOK mixedOK ?_
    simp (maxSteps := 2000000) -implicitDefEqProofs [k2, u2, hx4, b3, c3, hy6_7]
    refine callG_fun (w_rSameTy x4.ty y6_7.ty) ?_ ?_
    ·first | (simp; done) | (simp [k2, u2, hx4, b3, c3, hy6_7]; done)
    simp (maxSteps := 2000000) -implicitDefEqProofs [k2, u2, hx4, b3, c3, hy6_7]
    refine And.intro ?_ ?_
    ·first | decide +kernel | (simp -implicitDefEqProofs; decide +kernel) | (split <;> decide +kernel)
    try simp -implicitDefEqProofs
    refine EV.seq ?_
    refine EV.nrm (fun _ : Unit => (⟨[.ro 4 (p0.map fieldC), .ro 4 (p1.map fieldC), J, J, J, .i .i64 (j4 : Int), J, J, J, J, J, J, J, J, J, J, J, J, J, J, J, J, J, J, J, J, J, J, J, J, J, J, J, J, J, J, J, J, J, J, J, J, J, .b ((!(rSameTy x4.ty y6_7.ty)) || (!(decide (x4.name = y6_7.name))))], []⟩ : St)) ?_ ?_
    ·skip
     cases k5 : (rSameTy x4.ty y6_7.ty)
     ·skip
      have kk5 := k5
      try simp at kk5
      refine EV.drawG tabOK mixedOK ?_
      simp (maxSteps := 2000000) -implicitDefEqProofs +contextual [k2, u2, hx4, b3, c3, hy6_7, k5, kk5]
      refine And.intro ?_ ?_
      ·first | decide +kernel | (simp -implicitDefEqProofs; decide +kernel) | (split <;> decide +kernel)
      try simp -implicitDefEqProofs
      refine ⟨(), ?_⟩
      try dsimp only
      refine Sub.cutF 0 (by simp) ?_ ?_ <;> simp [List.range_succ, toIdx_range, passed, k2, u2, hx4, b3, c3, hy6_7, k5, kk5]
     have kk5 := k5
     try simp at kk5
     refine EV.drawG tabOK mixedOK ?_
     simp (maxSteps := 2000000) -implicitDefEqProofs +contextual [k2, u2, hx4, b3, c3, hy6_7, k5, kk5]
     refine And.intro ?_ ?_
     ·first | decide +kernel | (simp -implicitDefEqProofs; decide +kernel) | (split <;> decide +kernel)
     try simp -implicitDefEqProofs
     refine ⟨(), ?_⟩
     try dsimp only
     refine Sub.cutF 0 (by simp) ?_ ?_ <;> simp [List.range_succ, toIdx_range, passed, k2, u2, hx4, b3, c3, hy6_7, k5, kk5]
    rintro _
    simp only [thenK_normal, blockK_normal, scopeK_normal, bodyK_normal]
    refine EV.condT ?_
    simp -implicitDefEqProofs [k2, u2, hx4, b3, c3, hy6_7]
    refine condT_intro (fun k6 => ?_) (fun k6 => ?_)
    ·try simp at k6
     obtain ⟨f6, e4⟩ := pos_on2 e4 (by first | simpa using k6 | grind)
     try simp at f6
     refine EV.seq (EV.regionG tabOK ?_)
     simp (maxSteps := 2000000) -implicitDefEqProofs [k2, u2, hx4, b3, c3, hy6_7]
     refine EV.ret ?_
     simp only [thenK_ret, blockK_ret, scopeK_ret, bodyK_ret]
     replace e := run_back e e4
     subst e
     refine Fin.pure0 ?_
     first | (simp; done) | (simp <;> grind)
    try simp at k6
    obtain ⟨f6, e4⟩ := neg_on2 e4 (by first | simpa using k6 | grind)
    try simp at f6
    refine EV.skip ?_
    simp only [thenK_normal, blockK_normal, scopeK_normal]
    refine EV.regionG tabOK ?_
    simp (maxSteps := 2000000) -implicitDefEqProofs [k2, u2, hx4, b3, c3, hy6_7]
    have w4 : IntKind.i64.wrap ((j4 : Int) + 1) = (j4 : Int) + 1 := wrap_in _ (by omega) (by omega)
    refine ⟨⟨j4 + 1, by omega, e4⟩, by dsimp only; omega, ?_⟩
    try dsimp only
    refine Sub.cutF 0 (by simp) ?_ ?_ <;> simp [List.range_succ, toIdx_range, passed, k2, u2, hx4, b3, c3, hy6_7, w4]
   try simp at k2
   have d2 : p0.drop j4 = [] := List.drop_eq_nil_of_le (by omega)
   rw [d2, rSameFields_l4] at e4
   refine EV.exit ?_
   simp -implicitDefEqProofs
   refine ⟨⟨((), ()), e4.symm⟩, ?_⟩
   try dsimp only
   refine Sub.cutF 0 (by simp) ?_ ?_ <;> simp [List.range_succ, toIdx_range, passed]
  ·skip
   rintro ⟨⟨v4, g4⟩, e4⟩
   simp only [thenK_normal, blockK_normal, scopeK_normal, bodyK_normal]
   replace e := run_on e e4
   try dsimp only at e
   refine EV.seq (EV.regionG tabOK ?_)
   simp (maxSteps := 2000000) -implicitDefEqProofs
   refine EV.ret ?_
   simp only [thenK_ret, blockK_ret, scopeK_ret, bodyK_ret]
   subst e
   refine Fin.pure0 ?_
   first | (simp; done) | (simp <;> grind)
def rSameBlock_b_l4 (r_rSameStmt : StmtD → StmtD → Bool) (p1 : List StmtD) : List StmtD → Nat → Ctl (Bool) (Unit)
 | [], _ => .go ()
 | x4 :: xs4, j4 => (bnd (p1.getD j4 default) fun (y6_6 : StmtD) => (if ¬ ((r_rSameStmt x4 y6_6) = true) then .ret false else rSameBlock_b_l4 r_rSameStmt p1 xs4 (j4 + 1)))
def rSameBlock_b (r_rSameBlock : (List StmtD) → (List StmtD) → Bool) (r_rSameStmt : StmtD → StmtD → Bool) (p0 : List StmtD) (p1 : List StmtD) : Bool :=
 (if ¬ ((p0.length : Int) = (p1.length : Int)) then false else (Ctl.run (rSameBlock_b_l4 r_rSameStmt p1 p0 0) fun (v4 : Unit) => true))
set_option maxHeartbeats 40000000 in
theorem w_rSameBlock_b (r_rSameBlock : (List StmtD) → (List StmtD) → Bool) (r_rSameStmt : StmtD → StmtD → Bool) (p0 : List StmtD) (p1 : List StmtD)  (D : Nat) (H_rSameBlock : ∀ (u0 : List StmtD) (u1 : List StmtD), SizeOf.sizeOf u0 < D → QC prog 37 [.ro 21 (u0.map stmtC), .ro 21 (u1.map stmtC)] [] (.b (r_rSameBlock u0 u1)) []) (H_rSameStmt : ∀ (u0 : StmtD) (u1 : StmtD), SizeOf.sizeOf u0 < D → QC prog 101 [.agg [.i .i64 u0.k, .i .i64 u0.at_, .s u0.name, .i .i64 u0.ty.k, .s u0.ty.name, .ro 3 (u0.ty.l.map tyC), .s u0.p.name, .ro 1 (u0.p.path.map stepC), .i .i64 u0.rv.k, .ro 4 (u0.rv.ops.map operC), .s u0.rv.p.name, .ro 1 (u0.rv.p.path.map stepC), .s u0.rv.name, .s u0.rv.variant, .b u0.op.num, .i .i64 u0.op.n, .s u0.op.p.name, .ro 1 (u0.op.p.path.map stepC), .ro 21 (u0.then_.map stmtC), .ro 21 (u0.else_.map stmtC), .ro 3 (u0.arms.map armC)], .agg [.i .i64 u1.k, .i .i64 u1.at_, .s u1.name, .i .i64 u1.ty.k, .s u1.ty.name, .ro 3 (u1.ty.l.map tyC), .s u1.p.name, .ro 1 (u1.p.path.map stepC), .i .i64 u1.rv.k, .ro 4 (u1.rv.ops.map operC), .s u1.rv.p.name, .ro 1 (u1.rv.p.path.map stepC), .s u1.rv.name, .s u1.rv.variant, .b u1.op.num, .i .i64 u1.op.n, .s u1.op.p.name, .ro 1 (u1.op.p.path.map stepC), .ro 21 (u1.then_.map stmtC), .ro 21 (u1.else_.map stmtC), .ro 3 (u1.arms.map armC)]] [] (.b (r_rSameStmt u0 u1)) []) (hD : SizeOf.sizeOf p0 ≤ D) : QC prog 37 [.ro 21 (p0.map stmtC), .ro 21 (p1.map stmtC)] [] (.b (rSameBlock_b r_rSameBlock r_rSameStmt p0 p1)) [] := by
 refine QC.of_body tabOK func37 rfl (by kernel_rfl) ?_
 simp only [f37]
 generalize e : rSameBlock_b r_rSameBlock r_rSameStmt p0 p1 = R
 unfold rSameBlock_b at e
 refine EV.seq (EV.regionG tabOK ?_)
 simp (maxSteps := 2000000) -implicitDefEqProofs
 refine EV.seq (EV.seq (EV.regionG tabOK ?_))
 simp (maxSteps := 2000000) -implicitDefEqProofs
 refine EV.condT ?_
 simp -implicitDefEqProofs
 refine condT_intro (fun k1 => ?_) (fun k1 => ?_)
 ·try simp at k1
  obtain ⟨f1, e⟩ := pos_on2 e (by first | simpa using k1 | grind)
  try simp at f1
  refine EV.seq (EV.regionG tabOK ?_)
  simp (maxSteps := 2000000) -implicitDefEqProofs
  refine EV.ret ?_
  simp only [thenK_ret, blockK_ret, scopeK_ret, bodyK_ret]
  subst e
  refine Fin.pure0 ?_
  first | (simp; done) | (simp <;> grind)
 try simp at k1
 obtain ⟨f1, e⟩ := neg_on2 e (by first | simpa using k1 | grind)
 try simp at f1
 refine EV.skip ?_
 simp only [thenK_normal, blockK_normal, scopeK_normal]
 refine EV.seq (EV.seq (EV.regionG tabOK ?_))
 simp (maxSteps := 2000000) -implicitDefEqProofs
 obtain ⟨z4, e4, e⟩ := run_split e
 refine EV.nrm (fun v : { v : (Unit) × (Unit) // z4 = .go v.1 } => (fun (v4 : Unit) (g4 : Unit) => (⟨[J, J, J, J, J, J, J, J, J, J, J, J, J, J, J, J, J, J, J, J, J, J, J, J, J, J, J, J, J], []⟩ : St)) v.1.1 v.1.2) ?_ ?_
 ·skip
  refine EV.block ?_
  refine EV.loopB (fun x : { x : Nat // x ≤ p0.length ∧ rSameBlock_b_l4 r_rSameStmt p1 (p0.drop x) x = z4 } => (fun (j4 : Nat) => (⟨[.ro 21 (p0.map stmtC), .ro 21 (p1.map stmtC), J, J, J, .i .i64 (j4 : Int), J, J, J, J, J, J, J, J, J, J, J, J, J, J, J, J, J, J, J, J, J, J, J], []⟩ : St)) x.1) (fun x => p0.length - x.1) ⟨0, Nat.zero_le _, e4⟩ ?_ ?_
  ·skip
   try dsimp only
   try dsimp only
   refine Sub.cutF 0 (by simp) ?_ ?_ <;> simp [List.range_succ, toIdx_range, passed]
  rintro ⟨j4, hi4, e4⟩
  simp only at hi4 e4 ⊢
  refine EV.seq (EV.seq (EV.regionG tabOK ?_))
  simp (maxSteps := 2000000) -implicitDefEqProofs
  refine EV.room 0 (by rfl) (fun mj4 => ?_)
  simp at mj4
  refine EV.condT ?_
  simp -implicitDefEqProofs
  refine condT_intro (fun k2 => ?_) (fun k2 => ?_)
  ·try simp at k2
   have u2 : j4 < p0.length := by omega
   obtain ⟨x4, hx4⟩ : ∃ z, p0[j4] = z := ⟨_, rfl⟩
   have mx4 : x4 ∈ p0 := by rw [← hx4]; exact List.getElem_mem _
   have zzx4 := List.sizeOf_lt_of_mem mx4
   rw [List.drop_eq_getElem_cons u2, hx4, rSameBlock_b_l4] at e4
   refine EV.skip ?_
   simp only [thenK_normal, blockK_normal, scopeK_normal]
   refine EV.seq (EV.block (EV.seq ?_))
   obtain ⟨y6_6, gy6_6⟩ : ∃ z, (p1.getD j4 default) = z := ⟨_, rfl⟩
   replace e4 := bnd_on e4 gy6_6
   try dsimp only at e4
   have b3 : 0 ≤ (j4 : Int) ∧ (j4 : Int) < (p1.length : Int) := by omega
   have c3 : j4 < p1.length := by omega
   have hy6_6 : p1[j4] = y6_6 := by rw [← gy6_6, List.getD_eq_getElem?_getD, List.getElem?_eq_getElem c3]; rfl
   have my6_6 : y6_6 ∈ p1 := by rw [← hy6_6]; exact List.getElem_mem _
   have zzy6_6 := List.sizeOf_lt_of_mem my6_6
   refine EV.drawG tabOK mixedOK ?_
   simp (maxSteps := 2000000) -implicitDefEqProofs [k2, u2, hx4, b3, c3, hy6_6]
   refine callG_fun (H_rSameStmt x4 y6_6 (by first | omega | (simp at *; omega))) ?_ ?_
   ·first | (simp; done) | (simp [k2, u2, hx4, b3, c3, hy6_6]; done)
   simp (maxSteps := 2000000) -implicitDefEqProofs [k2, u2, hx4, b3, c3, hy6_6]
   refine And.intro ?_ ?_
   ·first | decide +kernel | (simp -implicitDefEqProofs; decide +kernel) | (split <;> decide +kernel)
   try simp -implicitDefEqProofs
   refine EV.seq (EV.regionG tabOK ?_)
   simp (maxSteps := 2000000) -implicitDefEqProofs [k2, u2, hx4, b3, c3, hy6_6]
   refine EV.condT ?_
   simp -implicitDefEqProofs [k2, u2, hx4, b3, c3, hy6_6]
   refine condT_intro (fun k4 => ?_) (fun k4 => ?_)
   ·try simp at k4
    obtain ⟨f4, e4⟩ := pos_on2 e4 (by first | simpa using k4 | grind)
    try simp at f4
    refine EV.seq (EV.regionG tabOK ?_)
    simp (maxSteps := 2000000) -implicitDefEqProofs [k2, u2, hx4, b3, c3, hy6_6]
    refine EV.ret ?_
    simp only [thenK_ret, blockK_ret, scopeK_ret, bodyK_ret]
    replace e := run_back e e4
    subst e
    refine Fin.pure0 ?_
    first | (simp; done) | (simp <;> grind)
   try simp at k4
   obtain ⟨f4, e4⟩ := neg_on2 e4 (by first | simpa using k4 | grind)
   try simp at f4
   refine EV.skip ?_
   simp only [thenK_normal, blockK_normal, scopeK_normal]
   refine EV.regionG tabOK ?_
   simp (maxSteps := 2000000) -implicitDefEqProofs [k2, u2, hx4, b3, c3, hy6_6]
   have w4 : IntKind.i64.wrap ((j4 : Int) + 1) = (j4 : Int) + 1 := wrap_in _ (by omega) (by omega)
   refine ⟨⟨j4 + 1, by omega, e4⟩, by dsimp only; omega, ?_⟩
   try dsimp only
   refine Sub.cutF 0 (by simp) ?_ ?_ <;> simp [List.range_succ, toIdx_range, passed, k2, u2, hx4, b3, c3, hy6_6, w4]
  try simp at k2
  have d2 : p0.drop j4 = [] := List.drop_eq_nil_of_le (by omega)
  rw [d2, rSameBlock_b_l4] at e4
  refine EV.exit ?_
  simp -implicitDefEqProofs
  refine ⟨⟨((), ()), e4.symm⟩, ?_⟩
  try dsimp only
  refine Sub.cutF 0 (by simp) ?_ ?_ <;> simp [List.range_succ, toIdx_range, passed]
 rintro ⟨⟨v4, g4⟩, e4⟩
 simp only [thenK_normal, blockK_normal, scopeK_normal, bodyK_normal]
 replace e := run_on e e4
 try dsimp only at e
 refine EV.seq (EV.regionG tabOK ?_)
 simp (maxSteps := 2000000) -implicitDefEqProofs
 refine EV.ret ?_
 simp only [thenK_ret, blockK_ret, scopeK_ret, bodyK_ret]
 subst e
 refine Fin.pure0 ?_
 first | (simp; done) | (simp <;> grind)

def rSameStmt_b_l7 (r_rSameBlock : (List StmtD) → (List StmtD) → Bool) (p1 : StmtD) : List ArmD → Nat → Ctl (Bool) (Unit)
 | [], _ => .go ()
 | x7 :: xs7, j7 => (bnd (p1.arms.getD j7 default) fun (y9_9 : ArmD) => (if ((¬ ((r_rSameBlock x7.body y9_9.body) = true)) ∨ (¬ (x7.variant = y9_9.variant))) ∨ (¬ (x7.bind = y9_9.bind)) then .ret false else rSameStmt_b_l7 r_rSameBlock p1 xs7 (j7 + 1)))
def rSameStmt_b (r_rSameBlock : (List StmtD) → (List StmtD) → Bool) (r_rSameStmt : StmtD → StmtD → Bool) (p0 : StmtD) (p1 : StmtD) : Bool :=
 (if (((((¬ (((rSameTy p0.ty p1.ty) = true) ∧ ((rSamePlace p0.p p1.p) = true))) ∨ (¬ (((rSameRv p0.rv p1.rv) = true) ∧ ((rSameOper p0.op p1.op) = true)))) ∨ (¬ (((r_rSameBlock p0.then_ p1.then_) = true) ∧ ((r_rSameBlock p0.else_ p1.else_) = true)))) ∨ (¬ (p0.k = p1.k))) ∨ (¬ (p0.name = p1.name))) ∨ (¬ ((p0.arms.length : Int) = (p1.arms.length : Int))) then false else (Ctl.run (rSameStmt_b_l7 r_rSameBlock p1 p0.arms 0) fun (v7 : Unit) => true))
set_option maxHeartbeats 40000000 in
theorem w_rSameStmt_b (r_rSameBlock : (List StmtD) → (List StmtD) → Bool) (r_rSameStmt : StmtD → StmtD → Bool) (p0 : StmtD) (p1 : StmtD)  (D : Nat) (H_rSameBlock : ∀ (u0 : List StmtD) (u1 : List StmtD), SizeOf.sizeOf u0 < D → QC prog 37 [.ro 21 (u0.map stmtC), .ro 21 (u1.map stmtC)] [] (.b (r_rSameBlock u0 u1)) []) (H_rSameStmt : ∀ (u0 : StmtD) (u1 : StmtD), SizeOf.sizeOf u0 < D → QC prog 101 [.agg [.i .i64 u0.k, .i .i64 u0.at_, .s u0.name, .i .i64 u0.ty.k, .s u0.ty.name, .ro 3 (u0.ty.l.map tyC), .s u0.p.name, .ro 1 (u0.p.path.map stepC), .i .i64 u0.rv.k, .ro 4 (u0.rv.ops.map operC), .s u0.rv.p.name, .ro 1 (u0.rv.p.path.map stepC), .s u0.rv.name, .s u0.rv.variant, .b u0.op.num, .i .i64 u0.op.n, .s u0.op.p.name, .ro 1 (u0.op.p.path.map stepC), .ro 21 (u0.then_.map stmtC), .ro 21 (u0.else_.map stmtC), .ro 3 (u0.arms.map armC)], .agg [.i .i64 u1.k, .i .i64 u1.at_, .s u1.name, .i .i64 u1.ty.k, .s u1.ty.name, .ro 3 (u1.ty.l.map tyC), .s u1.p.name, .ro 1 (u1.p.path.map stepC), .i .i64 u1.rv.k, .ro 4 (u1.rv.ops.map operC), .s u1.rv.p.name, .ro 1 (u1.rv.p.path.map stepC), .s u1.rv.name, .s u1.rv.variant, .b u1.op.num, .i .i64 u1.op.n, .s u1.op.p.name, .ro 1 (u1.op.p.path.map stepC), .ro 21 (u1.then_.map stmtC), .ro 21 (u1.else_.map stmtC), .ro 3 (u1.arms.map armC)]] [] (.b (r_rSameStmt u0 u1)) []) (hD : SizeOf.sizeOf p0 ≤ D) : QC prog 101 [.agg [.i .i64 p0.k, .i .i64 p0.at_, .s p0.name, .i .i64 p0.ty.k, .s p0.ty.name, .ro 3 (p0.ty.l.map tyC), .s p0.p.name, .ro 1 (p0.p.path.map stepC), .i .i64 p0.rv.k, .ro 4 (p0.rv.ops.map operC), .s p0.rv.p.name, .ro 1 (p0.rv.p.path.map stepC), .s p0.rv.name, .s p0.rv.variant, .b p0.op.num, .i .i64 p0.op.n, .s p0.op.p.name, .ro 1 (p0.op.p.path.map stepC), .ro 21 (p0.then_.map stmtC), .ro 21 (p0.else_.map stmtC), .ro 3 (p0.arms.map armC)], .agg [.i .i64 p1.k, .i .i64 p1.at_, .s p1.name, .i .i64 p1.ty.k, .s p1.ty.name, .ro 3 (p1.ty.l.map tyC), .s p1.p.name, .ro 1 (p1.p.path.map stepC), .i .i64 p1.rv.k, .ro 4 (p1.rv.ops.map operC), .s p1.rv.p.name, .ro 1 (p1.rv.p.path.map stepC), .s p1.rv.name, .s p1.rv.variant, .b p1.op.num, .i .i64 p1.op.n, .s p1.op.p.name, .ro 1 (p1.op.p.path.map stepC), .ro 21 (p1.then_.map stmtC), .ro 21 (p1.else_.map stmtC), .ro 3 (p1.arms.map armC)]] [] (.b (rSameStmt_b r_rSameBlock r_rSameStmt p0 p1)) [] := by
 refine QC.of_body tabOK func101 rfl (by kernel_rfl) ?_
 simp only [f101]
 generalize e : rSameStmt_b r_rSameBlock r_rSameStmt p0 p1 = R
 unfold rSameStmt_b at e
 refine EV.seq (EV.regionG tabOK ?_)
 simp (maxSteps := 2000000) -implicitDefEqProofs
 refine EV.seq ?_
 refine EV.nrm (fun _ : Unit => (⟨[J, J, .ptr 0 0 0 0, .ptr 1 0 0 0, J, .b ((rSameTy p0.ty p1.ty) && (rSamePlace p0.p p1.p)), J, J, J, J, J, J, J, J, J, J, J, J, J, J, J, J, J, J, J, J, J, J, J, J, J, J, J, J, J, J, J, J, J, J, J, J, J, J, J, J, J, J, J, J, J, J, J, J, J, J, J, J, J, J, J, J, J, J, J, J, J, J, J, J, J, J, J, J, J, J, J, J, J, J, J, J, J, J, J, J, J, J, J, J, J, J, J, J, J, J, J, J, J, J, J, J, J, J, J, J, J, J, J, J, J, J, J, J, J, J, J, J, J, J, J, J, J, J, J, J, J, J, J, J, J], [.arr 0 21 [[.i .i64 p0.k, .i .i64 p0.at_, .s p0.name, .i .i64 p0.ty.k, .s p0.ty.name, .ro 3 (p0.ty.l.map tyC), .s p0.p.name, .ro 1 (p0.p.path.map stepC), .i .i64 p0.rv.k, .ro 4 (p0.rv.ops.map operC), .s p0.rv.p.name, .ro 1 (p0.rv.p.path.map stepC), .s p0.rv.name, .s p0.rv.variant, .b p0.op.num, .i .i64 p0.op.n, .s p0.op.p.name, .ro 1 (p0.op.p.path.map stepC), .ro 21 (p0.then_.map stmtC), .ro 21 (p0.else_.map stmtC), .ro 3 (p0.arms.map armC)]], .arr 0 21 [[.i .i64 p1.k, .i .i64 p1.at_, .s p1.name, .i .i64 p1.ty.k, .s p1.ty.name, .ro 3 (p1.ty.l.map tyC), .s p1.p.name, .ro 1 (p1.p.path.map stepC), .i .i64 p1.rv.k, .ro 4 (p1.rv.ops.map operC), .s p1.rv.p.name, .ro 1 (p1.rv.p.path.map stepC), .s p1.rv.name, .s p1.rv.variant, .b p1.op.num, .i .i64 p1.op.n, .s p1.op.p.name, .ro 1 (p1.op.p.path.map stepC), .ro 21 (p1.then_.map stmtC), .ro 21 (p1.else_.map stmtC), .ro 3 (p1.arms.map armC)]]]⟩ : St)) ?_ ?_
 ·skip
  cases k2 : (rSameTy p0.ty p1.ty)
  ·skip
   have kk2 := k2
   try simp at kk2
   refine EV.regionG tabOK ?_
   simp (maxSteps := 2000000) -implicitDefEqProofs +contextual [k2, kk2]
   refine callG_fun (w_rSameTy p0.ty p1.ty) ?_ ?_
   ·first | (simp; done) | (simp [k2, kk2]; done)
   simp (maxSteps := 2000000) -implicitDefEqProofs +contextual [k2, kk2]
   refine ⟨(), ?_⟩
   try dsimp only
   refine Sub.cutF 2 (by simp) ?_ ?_ <;> simp [List.range_succ, toIdx_range, passed, k2, kk2]
  have kk2 := k2
  try simp at kk2
  refine EV.regionG tabOK ?_
  simp (maxSteps := 2000000) -implicitDefEqProofs +contextual [k2, kk2]
  refine callG_fun (w_rSameTy p0.ty p1.ty) ?_ ?_
  ·first | (simp; done) | (simp [k2, kk2]; done)
  simp (maxSteps := 2000000) -implicitDefEqProofs +contextual [k2, kk2]
  refine callG_fun (w_rSamePlace p0.p p1.p) ?_ ?_
  ·first | (simp; done) | (simp [k2, kk2]; done)
  simp (maxSteps := 2000000) -implicitDefEqProofs +contextual [k2, kk2]
  refine ⟨(), ?_⟩
  try dsimp only
  refine Sub.cutF 2 (by simp) ?_ ?_ <;> simp [List.range_succ, toIdx_range, passed, k2, kk2]
 rintro _
 simp only [thenK_normal, blockK_normal, scopeK_normal, bodyK_normal]
 refine EV.seq ?_
 refine EV.nrm (fun _ : Unit => (⟨[J, J, .ptr 0 0 0 0, .ptr 1 0 0 0, J, .b ((rSameTy p0.ty p1.ty) && (rSamePlace p0.p p1.p)), .b ((rSameRv p0.rv p1.rv) && (rSameOper p0.op p1.op)), J, J, J, J, J, J, J, J, J, J, J, J, J, J, J, J, J, J, J, J, J, J, J, J, J, J, J, J, J, J, J, J, J, J, J, J, J, J, J, J, J, J, J, J, J, J, J, J, J, J, J, J, J, J, J, J, J, J, J, J, J, J, J, J, J, J, J, J, J, J, J, J, J, J, J, J, J, J, J, J, J, J, J, J, J, J, J, J, J, J, J, J, J, J, J, J, J, J, J, J, J, J, J, J, J, J, J, J, J, J, J, J, J, J, J, J, J, J, J, J, J, J, J, J], [.arr 0 21 [[.i .i64 p0.k, .i .i64 p0.at_, .s p0.name, .i .i64 p0.ty.k, .s p0.ty.name, .ro 3 (p0.ty.l.map tyC), .s p0.p.name, .ro 1 (p0.p.path.map stepC), .i .i64 p0.rv.k, .ro 4 (p0.rv.ops.map operC), .s p0.rv.p.name, .ro 1 (p0.rv.p.path.map stepC), .s p0.rv.name, .s p0.rv.variant, .b p0.op.num, .i .i64 p0.op.n, .s p0.op.p.name, .ro 1 (p0.op.p.path.map stepC), .ro 21 (p0.then_.map stmtC), .ro 21 (p0.else_.map stmtC), .ro 3 (p0.arms.map armC)]], .arr 0 21 [[.i .i64 p1.k, .i .i64 p1.at_, .s p1.name, .i .i64 p1.ty.k, .s p1.ty.name, .ro 3 (p1.ty.l.map tyC), .s p1.p.name, .ro 1 (p1.p.path.map stepC), .i .i64 p1.rv.k, .ro 4 (p1.rv.ops.map operC), .s p1.rv.p.name, .ro 1 (p1.rv.p.path.map stepC), .s p1.rv.name, .s p1.rv.variant, .b p1.op.num, .i .i64 p1.op.n, .s p1.op.p.name, .ro 1 (p1.op.p.path.map stepC), .ro 21 (p1.then_.map stmtC), .ro 21 (p1.else_.map stmtC), .ro 3 (p1.arms.map armC)]]]⟩ : St)) ?_ ?_
 ·skip
  cases k4 : (rSameRv p0.rv p1.rv)
  ·skip
   have kk4 := k4
   try simp at kk4
   refine EV.regionG tabOK ?_
   simp (maxSteps := 2000000) -implicitDefEqProofs +contextual [k4, kk4]
   refine callG_fun (w_rSameRv p0.rv p1.rv) ?_ ?_
   ·first | (simp; done) | (simp [k4, kk4]; done)
   simp (maxSteps := 2000000) -implicitDefEqProofs +contextual [k4, kk4]
   refine ⟨(), ?_⟩
   try dsimp only
   refine Sub.cutF 2 (by simp) ?_ ?_ <;> simp [List.range_succ, toIdx_range, passed, k4, kk4]
  have kk4 := k4
  try simp at kk4
  refine EV.regionG tabOK ?_
  simp (maxSteps := 2000000) -implicitDefEqProofs +contextual [k4, kk4]
  refine callG_fun (w_rSameRv p0.rv p1.rv) ?_ ?_
  ·first | (simp; done) | (simp [k4, kk4]; done)
  simp (maxSteps := 2000000) -implicitDefEqProofs +contextual [k4, kk4]
  refine callG_fun (w_rSameOper p0.op p1.op) ?_ ?_
  ·first | (simp; done) | (simp [k4, kk4]; done)
  simp (maxSteps := 2000000) -implicitDefEqProofs +contextual [k4, kk4]
  refine ⟨(), ?_⟩
  try dsimp only
  refine Sub.cutF 2 (by simp) ?_ ?_ <;> simp [List.range_succ, toIdx_range, passed, k4, kk4]
 rintro _
 simp only [thenK_normal, blockK_normal, scopeK_normal, bodyK_normal]
 refine EV.seq ?_
 refine EV.nrm (fun _ : Unit => (⟨[J, J, .ptr 0 0 0 0, .ptr 1 0 0 0, J, .b ((rSameTy p0.ty p1.ty) && (rSamePlace p0.p p1.p)), .b ((rSameRv p0.rv p1.rv) && (rSameOper p0.op p1.op)), .b ((r_rSameBlock p0.then_ p1.then_) && (r_rSameBlock p0.else_ p1.else_)), J, J, J, J, J, J, J, J, J, J, J, J, J, J, J, J, J, J, J, J, J, J, J, J, J, J, J, J, J, J, J, J, J, J, J, J, J, J, J, J, J, J, J, J, J, J, J, J, J, J, J, J, J, J, J, J, J, J, J, J, J, J, J, J, J, J, J, J, J, J, J, J, J, J, J, J, J, J, J, J, J, J, J, J, J, J, J, J, J, J, J, J, J, J, J, J, J, J, J, J, J, J, J, J, J, J, J, J, J, J, J, J, J, J, J, J, J, J, J, J, J, J, J], [.arr 0 21 [[.i .i64 p0.k, .i .i64 p0.at_, .s p0.name, .i .i64 p0.ty.k, .s p0.ty.name, .ro 3 (p0.ty.l.map tyC), .s p0.p.name, .ro 1 (p0.p.path.map stepC), .i .i64 p0.rv.k, .ro 4 (p0.rv.ops.map operC), .s p0.rv.p.name, .ro 1 (p0.rv.p.path.map stepC), .s p0.rv.name, .s p0.rv.variant, .b p0.op.num, .i .i64 p0.op.n, .s p0.op.p.name, .ro 1 (p0.op.p.path.map stepC), .ro 21 (p0.then_.map stmtC), .ro 21 (p0.else_.map stmtC), .ro 3 (p0.arms.map armC)]], .arr 0 21 [[.i .i64 p1.k, .i .i64 p1.at_, .s p1.name, .i .i64 p1.ty.k, .s p1.ty.name, .ro 3 (p1.ty.l.map tyC), .s p1.p.name, .ro 1 (p1.p.path.map stepC), .i .i64 p1.rv.k, .ro 4 (p1.rv.ops.map operC), .s p1.rv.p.name, .ro 1 (p1.rv.p.path.map stepC), .s p1.rv.name, .s p1.rv.variant, .b p1.op.num, .i .i64 p1.op.n, .s p1.op.p.name, .ro 1 (p1.op.p.path.map stepC), .ro 21 (p1.then_.map stmtC), .ro 21 (p1.else_.map stmtC), .ro 3 (p1.arms.map armC)]]]⟩ : St)) ?_ ?_
 ·skip
  cases k6 : (r_rSameBlock p0.then_ p1.then_)
  ·skip
   have kk6 := k6
   try simp at kk6
   have := sz_StmtD_then_ p0
   refine EV.regionG tabOK ?_
   simp (maxSteps := 2000000) -implicitDefEqProofs +contextual [k6, kk6]
   refine callG_fun (H_rSameBlock p0.then_ p1.then_ (by first | omega | (simp at *; omega))) ?_ ?_
   ·first | (simp; done) | (simp [k6, kk6]; done)
   simp (maxSteps := 2000000) -implicitDefEqProofs +contextual [k6, kk6]
   refine ⟨(), ?_⟩
   try dsimp only
   refine Sub.cutF 2 (by simp) ?_ ?_ <;> simp [List.range_succ, toIdx_range, passed, k6, kk6]
  have kk6 := k6
  try simp at kk6
  have := sz_StmtD_then_ p0
  have := sz_StmtD_else_ p0
  refine EV.regionG tabOK ?_
  simp (maxSteps := 2000000) -implicitDefEqProofs +contextual [k6, kk6]
  refine callG_fun (H_rSameBlock p0.then_ p1.then_ (by first | omega | (simp at *; omega))) ?_ ?_
  ·first | (simp; done) | (simp [k6, kk6]; done)
  simp (maxSteps := 2000000) -implicitDefEqProofs +contextual [k6, kk6]
  refine callG_fun (H_rSameBlock p0.else_ p1.else_ (by first | omega | (simp at *; omega))) ?_ ?_
  ·first | (simp; done) | (simp [k6, kk6]; done)
  simp (maxSteps := 2000000) -implicitDefEqProofs +contextual [k6, kk6]
  refine ⟨(), ?_⟩
  try dsimp only
  refine Sub.cutF 2 (by simp) ?_ ?_ <;> simp [List.range_succ, toIdx_range, passed, k6, kk6]
 rintro _
 simp only [thenK_normal, blockK_normal, scopeK_normal, bodyK_normal]
 refine EV.seq (EV.seq (EV.regionG tabOK ?_))
 simp (maxSteps := 2000000) -implicitDefEqProofs +contextual
 refine EV.condT ?_
 simp -implicitDefEqProofs
 refine condT_intro (fun k7 => ?_) (fun k7 => ?_)
 ·try simp at k7
  obtain ⟨f7, e⟩ := pos_on2 e (by first | simpa using k7 | grind)
  try simp at f7
  refine EV.seq (EV.regionG tabOK ?_)
  simp (maxSteps := 2000000) -implicitDefEqProofs
  refine EV.ret ?_
  simp only [thenK_ret, blockK_ret, scopeK_ret, bodyK_ret]
  subst e
  refine Fin.pure0 ?_
  first | (simp; done) | (simp <;> grind)
 try simp at k7
 obtain ⟨f7, e⟩ := neg_on2 e (by first | simpa using k7 | grind)
 try simp at f7
 refine EV.skip ?_
 simp only [thenK_normal, blockK_normal, scopeK_normal]
 refine EV.seq (EV.seq (EV.regionG tabOK ?_))
 simp (maxSteps := 2000000) -implicitDefEqProofs
 obtain ⟨z7, e7, e⟩ := run_split e
 refine EV.nrm (fun v : { v : (Unit) × (Unit) // z7 = .go v.1 } => (fun (v7 : Unit) (g7 : Unit) => (⟨[J, J, J, J, J, J, J, J, J, J, J, J, J, J, J, J, J, J, J, J, J, J, J, J, J, J, J, J, J, J, J, J, J, J, J, J, J, J, J, J, J, J, J, J, J, J, J, J, J, J, J, J, J, J, J, J, J, J, J, J, J, J, J, J, J, J, J, J, J, J, J, J, J, J, J, J, J, J, J, J, J, J, J, J, J, J, J, J, J, J, J, J, J, J, J, J, J, J, J, J, J, J, J, J, J, J, J, J, J, J, J, J, J, J, J, J, J, J, J, J, J, J, J, J, J, J, J, J, J, J, J], []⟩ : St)) v.1.1 v.1.2) ?_ ?_
 ·skip
  refine EV.block ?_
  refine EV.loopB (fun x : { x : Nat // x ≤ p0.arms.length ∧ rSameStmt_b_l7 r_rSameBlock p1 (p0.arms.drop x) x = z7 } => (fun (j7 : Nat) => (⟨[J, J, .ptr 0 0 0 0, .ptr 1 0 0 0, J, J, J, J, .i .i64 (j7 : Int), J, J, J, J, J, J, J, J, J, J, J, J, J, J, J, J, J, J, J, J, J, J, J, J, J, J, J, J, J, J, J, J, J, J, J, J, J, J, J, J, J, J, J, J, J, J, J, J, J, J, J, J, J, J, J, J, J, J, J, J, J, J, J, J, J, J, J, J, J, J, J, J, J, J, J, J, J, J, J, J, J, J, J, J, J, J, J, J, J, J, J, J, J, J, J, J, J, J, J, J, J, J, J, J, J, J, J, J, J, J, J, J, J, J, J, J, J, J, J, J, J, J], [.arr 0 21 [[.i .i64 p0.k, .i .i64 p0.at_, .s p0.name, .i .i64 p0.ty.k, .s p0.ty.name, .ro 3 (p0.ty.l.map tyC), .s p0.p.name, .ro 1 (p0.p.path.map stepC), .i .i64 p0.rv.k, .ro 4 (p0.rv.ops.map operC), .s p0.rv.p.name, .ro 1 (p0.rv.p.path.map stepC), .s p0.rv.name, .s p0.rv.variant, .b p0.op.num, .i .i64 p0.op.n, .s p0.op.p.name, .ro 1 (p0.op.p.path.map stepC), .ro 21 (p0.then_.map stmtC), .ro 21 (p0.else_.map stmtC), .ro 3 (p0.arms.map armC)]], .arr 0 21 [[.i .i64 p1.k, .i .i64 p1.at_, .s p1.name, .i .i64 p1.ty.k, .s p1.ty.name, .ro 3 (p1.ty.l.map tyC), .s p1.p.name, .ro 1 (p1.p.path.map stepC), .i .i64 p1.rv.k, .ro 4 (p1.rv.ops.map operC), .s p1.rv.p.name, .ro 1 (p1.rv.p.path.map stepC), .s p1.rv.name, .s p1.rv.variant, .b p1.op.num, .i .i64 p1.op.n, .s p1.op.p.name, .ro 1 (p1.op.p.path.map stepC), .ro 21 (p1.then_.map stmtC), .ro 21 (p1.else_.map stmtC), .ro 3 (p1.arms.map armC)]]]⟩ : St)) x.1) (fun x => p0.arms.length - x.1) ⟨0, Nat.zero_le _, e7⟩ ?_ ?_
  ·skip
   try dsimp only
   try dsimp only
   refine Sub.cutF 2 (by simp) ?_ ?_ <;> simp [List.range_succ, toIdx_range, passed]
  rintro ⟨j7, hi7, e7⟩
  simp only at hi7 e7 ⊢
  refine EV.seq (EV.seq (EV.regionG tabOK ?_))
  simp (maxSteps := 2000000) -implicitDefEqProofs
  refine EV.room 81 (by rfl) (fun mj7 => ?_)
  simp at mj7
  refine EV.condT ?_
  simp -implicitDefEqProofs
  refine condT_intro (fun k8 => ?_) (fun k8 => ?_)
  ·try simp at k8
   have u8 : j7 < p0.arms.length := by omega
   obtain ⟨x7, hx7⟩ : ∃ z, p0.arms[j7] = z := ⟨_, rfl⟩
   have mx7 : x7 ∈ p0.arms := by rw [← hx7]; exact List.getElem_mem _
   have zzx7 := List.sizeOf_lt_of_mem mx7
   have := sz_StmtD_arms p0
   rw [List.drop_eq_getElem_cons u8, hx7, rSameStmt_b_l7] at e7
   refine EV.skip ?_
   simp only [thenK_normal, blockK_normal, scopeK_normal]
   refine EV.seq (EV.block (EV.seq ?_))
   obtain ⟨y9_9, gy9_9⟩ : ∃ z, (p1.arms.getD j7 default) = z := ⟨_, rfl⟩
   replace e7 := bnd_on e7 gy9_9
   try dsimp only at e7
   have b9 : 0 ≤ (j7 : Int) ∧ (j7 : Int) < (p1.arms.length : Int) := by omega
   have c9 : j7 < p1.arms.length := by omega
   have hy9_9 : p1.arms[j7] = y9_9 := by rw [← gy9_9, List.getD_eq_getElem?_getD, List.getElem?_eq_getElem c9]; rfl
   have my9_9 : y9_9 ∈ p1.arms := by rw [← hy9_9]; exact List.getElem_mem _
   have zzy9_9 := List.sizeOf_lt_of_mem my9_9
   have := sz_StmtD_arms p1
   have := sz_ArmD_body x7
   refine EV.drawG tabOK mixedOK ?_
   simp (maxSteps := 2000000) -implicitDefEqProofs [k8, u8, hx7, b9, c9, hy9_9]
   refine callG_fun (H_rSameBlock x7.body y9_9.body (by first | omega | (simp at *; omega))) ?_ ?_
   ·first | (simp; done) | (simp [k8, u8, hx7, b9, c9, hy9_9]; done)
   simp (maxSteps := 2000000) -implicitDefEqProofs [k8, u8, hx7, b9, c9, hy9_9]
   refine And.intro ?_ ?_
   ·first | decide +kernel | (simp -implicitDefEqProofs; decide +kernel) | (split <;> decide +kernel)
   try simp -implicitDefEqProofs
   refine EV.seq ?_
   refine EV.nrm (fun _ : Unit => (⟨[J, J, .ptr 0 0 0 0, .ptr 1 0 0 0, J, J, J, J, .i .i64 (j7 : Int), J, J, J, J, J, J, J, J, J, J, J, J, J, J, J, J, J, J, J, J, J, J, J, J, J, J, J, J, J, J, J, J, J, J, J, J, J, J, J, J, J, J, J, J, J, J, J, J, J, J, J, J, J, J, J, J, J, J, J, J, J, J, J, J, J, J, J, J, J, J, J, J, J, J, J, J, J, J, J, J, J, J, J, J, J, J, J, J, J, J, J, J, J, J, J, J, J, J, J, J, J, J, J, J, J, J, J, J, J, J, J, J, J, J, J, J, J, J, J, J, J, .b (((!(r_rSameBlock x7.body y9_9.body)) || (!(decide (x7.variant = y9_9.variant)))) || (!(decide (x7.bind = y9_9.bind))))], [.arr 0 21 [[.i .i64 p0.k, .i .i64 p0.at_, .s p0.name, .i .i64 p0.ty.k, .s p0.ty.name, .ro 3 (p0.ty.l.map tyC), .s p0.p.name, .ro 1 (p0.p.path.map stepC), .i .i64 p0.rv.k, .ro 4 (p0.rv.ops.map operC), .s p0.rv.p.name, .ro 1 (p0.rv.p.path.map stepC), .s p0.rv.name, .s p0.rv.variant, .b p0.op.num, .i .i64 p0.op.n, .s p0.op.p.name, .ro 1 (p0.op.p.path.map stepC), .ro 21 (p0.then_.map stmtC), .ro 21 (p0.else_.map stmtC), .ro 3 (p0.arms.map armC)]], .arr 0 21 [[.i .i64 p1.k, .i .i64 p1.at_, .s p1.name, .i .i64 p1.ty.k, .s p1.ty.name, .ro 3 (p1.ty.l.map tyC), .s p1.p.name, .ro 1 (p1.p.path.map stepC), .i .i64 p1.rv.k, .ro 4 (p1.rv.ops.map operC), .s p1.rv.p.name, .ro 1 (p1.rv.p.path.map stepC), .s p1.rv.name, .s p1.rv.variant, .b p1.op.num, .i .i64 p1.op.n, .s p1.op.p.name, .ro 1 (p1.op.p.path.map stepC), .ro 21 (p1.then_.map stmtC), .ro 21 (p1.else_.map stmtC), .ro 3 (p1.arms.map armC)]]]⟩ : St)) ?_ ?_
   ·skip
    cases k11 : (r_rSameBlock x7.body y9_9.body)
    ·skip
     have kk11 := k11
     try simp at kk11
     refine EV.drawG tabOK mixedOK ?_
     simp (maxSteps := 2000000) -implicitDefEqProofs +contextual [k8, u8, hx7, b9, c9, hy9_9, k11, kk11]
     refine And.intro ?_ ?_
     ·first | decide +kernel | (simp -implicitDefEqProofs; decide +kernel) | (split <;> decide +kernel)
     try simp -implicitDefEqProofs
     refine ⟨(), ?_⟩
     try dsimp only
     refine Sub.cutF 2 (by simp) ?_ ?_ <;> simp [List.range_succ, toIdx_range, passed, k8, u8, hx7, b9, c9, hy9_9, k11, kk11]
    have kk11 := k11
    try simp at kk11
    by_cases k12 : x7.variant = y9_9.variant
    ·skip
     have kk12 := k12
     try simp at kk12
     refine EV.drawG tabOK mixedOK ?_
     simp (maxSteps := 2000000) -implicitDefEqProofs +contextual [k8, u8, hx7, b9, c9, hy9_9, k11, kk11, k12, kk12]
     refine And.intro ?_ ?_
     ·first | decide +kernel | (simp -implicitDefEqProofs; decide +kernel) | (split <;> decide +kernel)
     try simp -implicitDefEqProofs
     refine ⟨(), ?_⟩
     try dsimp only
     refine Sub.cutF 2 (by simp) ?_ ?_ <;> simp [List.range_succ, toIdx_range, passed, k8, u8, hx7, b9, c9, hy9_9, k11, kk11, k12, kk12]
    have kk12 := k12
    try simp at kk12
    refine EV.drawG tabOK mixedOK ?_
    simp (maxSteps := 2000000) -implicitDefEqProofs +contextual [k8, u8, hx7, b9, c9, hy9_9, k11, kk11, k12, kk12]
    refine And.intro ?_ ?_
    ·first | decide +kernel | (simp -implicitDefEqProofs; decide +kernel) | (split <;> decide +kernel)
    try simp -implicitDefEqProofs
    refine ⟨(), ?_⟩
    try dsimp only
    refine Sub.cutF 2 (by simp) ?_ ?_ <;> simp [List.range_succ, toIdx_range, passed, k8, u8, hx7, b9, c9, hy9_9, k11, kk11, k12, kk12]
   rintro _
   simp only [thenK_normal, blockK_normal, scopeK_normal, bodyK_normal]
   refine EV.condT ?_
   simp -implicitDefEqProofs [k8, u8, hx7, b9, c9, hy9_9]
   refine condT_intro (fun k13 => ?_) (fun k13 => ?_)
   ·try simp at k13
    obtain ⟨f13, e7⟩ := pos_on2 e7 (by first | simpa using k13 | grind)
    try simp at f13
    refine EV.seq (EV.regionG tabOK ?_)
    simp (maxSteps := 2000000) -implicitDefEqProofs [k8, u8, hx7, b9, c9, hy9_9]
    refine EV.ret ?_
    simp only [thenK_ret, blockK_ret, scopeK_ret, bodyK_ret]
    replace e := run_back e e7
    subst e
    refine Fin.pure0 ?_
    first | (simp; done) | (simp <;> grind)
   try simp at k13
   obtain ⟨f13, e7⟩ := neg_on2 e7 (by first | simpa using k13 | grind)
   try simp at f13
   refine EV.skip ?_
   simp only [thenK_normal, blockK_normal, scopeK_normal]
   refine EV.regionG tabOK ?_
   simp (maxSteps := 2000000) -implicitDefEqProofs [k8, u8, hx7, b9, c9, hy9_9]
   have w7 : IntKind.i64.wrap ((j7 : Int) + 1) = (j7 : Int) + 1 := wrap_in _ (by omega) (by omega)
   refine ⟨⟨j7 + 1, by omega, e7⟩, by dsimp only; omega, ?_⟩
   try dsimp only
   refine Sub.cutF 2 (by simp) ?_ ?_ <;> simp [List.range_succ, toIdx_range, passed, k8, u8, hx7, b9, c9, hy9_9, w7]
  try simp at k8
  have d8 : p0.arms.drop j7 = [] := List.drop_eq_nil_of_le (by omega)
  rw [d8, rSameStmt_b_l7] at e7
  refine EV.exit ?_
  simp -implicitDefEqProofs
  refine ⟨⟨((), ()), e7.symm⟩, ?_⟩
  try dsimp only
  refine Sub.cutF 0 (by simp) ?_ ?_ <;> simp [List.range_succ, toIdx_range, passed]
 rintro ⟨⟨v7, g7⟩, e7⟩
 simp only [thenK_normal, blockK_normal, scopeK_normal, bodyK_normal]
 replace e := run_on e e7
 try dsimp only at e
 refine EV.seq (EV.regionG tabOK ?_)
 simp (maxSteps := 2000000) -implicitDefEqProofs
 refine EV.ret ?_
 simp only [thenK_ret, blockK_ret, scopeK_ret, bodyK_ret]
 subst e
 refine Fin.pure0 ?_
 first | (simp; done) | (simp <;> grind)

mutual
def rSameBlock_f : Nat → (List StmtD) → (List StmtD) → Bool
 | 0, _, _ => default
 | k + 1, p0, p1 => rSameBlock_b (rSameBlock_f k) (rSameStmt_f k) p0 p1
def rSameStmt_f : Nat → StmtD → StmtD → Bool
 | 0, _, _ => default
 | k + 1, p0, p1 => rSameStmt_b (rSameBlock_f k) (rSameStmt_f k) p0 p1
end
def rSameBlock (p0 : List StmtD) (p1 : List StmtD) : Bool := rSameBlock_f (SizeOf.sizeOf p0 + 1) p0 p1
def rSameStmt (p0 : StmtD) (p1 : StmtD) : Bool := rSameStmt_f (SizeOf.sizeOf p0 + 1) p0 p1
theorem w_rSameBlock_rSameStmt_f : ∀ k : Nat, (∀ (p0 : List StmtD) (p1 : List StmtD), SizeOf.sizeOf p0 < k → QC prog 37 [.ro 21 (p0.map stmtC), .ro 21 (p1.map stmtC)] [] (.b (rSameBlock_f k p0 p1)) []) ∧ (∀ (p0 : StmtD) (p1 : StmtD), SizeOf.sizeOf p0 < k → QC prog 101 [.agg [.i .i64 p0.k, .i .i64 p0.at_, .s p0.name, .i .i64 p0.ty.k, .s p0.ty.name, .ro 3 (p0.ty.l.map tyC), .s p0.p.name, .ro 1 (p0.p.path.map stepC), .i .i64 p0.rv.k, .ro 4 (p0.rv.ops.map operC), .s p0.rv.p.name, .ro 1 (p0.rv.p.path.map stepC), .s p0.rv.name, .s p0.rv.variant, .b p0.op.num, .i .i64 p0.op.n, .s p0.op.p.name, .ro 1 (p0.op.p.path.map stepC), .ro 21 (p0.then_.map stmtC), .ro 21 (p0.else_.map stmtC), .ro 3 (p0.arms.map armC)], .agg [.i .i64 p1.k, .i .i64 p1.at_, .s p1.name, .i .i64 p1.ty.k, .s p1.ty.name, .ro 3 (p1.ty.l.map tyC), .s p1.p.name, .ro 1 (p1.p.path.map stepC), .i .i64 p1.rv.k, .ro 4 (p1.rv.ops.map operC), .s p1.rv.p.name, .ro 1 (p1.rv.p.path.map stepC), .s p1.rv.name, .s p1.rv.variant, .b p1.op.num, .i .i64 p1.op.n, .s p1.op.p.name, .ro 1 (p1.op.p.path.map stepC), .ro 21 (p1.then_.map stmtC), .ro 21 (p1.else_.map stmtC), .ro 3 (p1.arms.map armC)]] [] (.b (rSameStmt_f k p0 p1)) [])
 | 0 => by refine ⟨(fun _ _ h => absurd h (Nat.not_lt_zero _)), (fun _ _ h => absurd h (Nat.not_lt_zero _))⟩
 | k + 1 => by refine ⟨(fun p0 p1 h => by rw [rSameBlock_f]; exact w_rSameBlock_b (rSameBlock_f k) (rSameStmt_f k) p0 p1 k (w_rSameBlock_rSameStmt_f k).1 (w_rSameBlock_rSameStmt_f k).2 (by omega)), (fun p0 p1 h => by rw [rSameStmt_f]; exact w_rSameStmt_b (rSameBlock_f k) (rSameStmt_f k) p0 p1 k (w_rSameBlock_rSameStmt_f k).1 (w_rSameBlock_rSameStmt_f k).2 (by omega))⟩
theorem w_rSameBlock (p0 : List StmtD) (p1 : List StmtD) : QC prog 37 [.ro 21 (p0.map stmtC), .ro 21 (p1.map stmtC)] [] (.b (rSameBlock p0 p1)) [] := (w_rSameBlock_rSameStmt_f (SizeOf.sizeOf p0 + 1)).1 p0 p1 (Nat.lt_succ_self _)
theorem w_rSameStmt (p0 : StmtD) (p1 : StmtD) : QC prog 101 [.agg [.i .i64 p0.k, .i .i64 p0.at_, .s p0.name, .i .i64 p0.ty.k, .s p0.ty.name, .ro 3 (p0.ty.l.map tyC), .s p0.p.name, .ro 1 (p0.p.path.map stepC), .i .i64 p0.rv.k, .ro 4 (p0.rv.ops.map operC), .s p0.rv.p.name, .ro 1 (p0.rv.p.path.map stepC), .s p0.rv.name, .s p0.rv.variant, .b p0.op.num, .i .i64 p0.op.n, .s p0.op.p.name, .ro 1 (p0.op.p.path.map stepC), .ro 21 (p0.then_.map stmtC), .ro 21 (p0.else_.map stmtC), .ro 3 (p0.arms.map armC)], .agg [.i .i64 p1.k, .i .i64 p1.at_, .s p1.name, .i .i64 p1.ty.k, .s p1.ty.name, .ro 3 (p1.ty.l.map tyC), .s p1.p.name, .ro 1 (p1.p.path.map stepC), .i .i64 p1.rv.k, .ro 4 (p1.rv.ops.map operC), .s p1.rv.p.name, .ro 1 (p1.rv.p.path.map stepC), .s p1.rv.name, .s p1.rv.variant, .b p1.op.num, .i .i64 p1.op.n, .s p1.op.p.name, .ro 1 (p1.op.p.path.map stepC), .ro 21 (p1.then_.map stmtC), .ro 21 (p1.else_.map stmtC), .ro 3 (p1.arms.map armC)]] [] (.b (rSameStmt p0 p1)) [] := (w_rSameBlock_rSameStmt_f (SizeOf.sizeOf p0 + 1)).2 p0 p1 (Nat.lt_succ_self _)
def rSame_l4 (p1 : SourceD) : List StructD → Nat → Ctl (Bool) (Unit)
 | [], _ => .go ()
 | x4 :: xs4, j4 => (bnd (p1.structs.getD j4 default) fun (y6_9 : StructD) => (if ((¬ ((rSameFields x4.fields y6_9.fields) = true)) ∨ (¬ (x4.name = y6_9.name))) ∨ (¬ ((x4.drop_ == y6_9.drop_) = true)) then .ret false else rSame_l4 p1 xs4 (j4 + 1)))
def rSame_l17 (y13_3 : EnumD) : List VariantD → Nat → Ctl (Bool) (Unit)
 | [], _ => .go ()
 | x17 :: xs17, j17 => (bnd (y13_3.variants.getD j17 default) fun (y19_9 : VariantD) => (if (¬ ((rSameTy x17.ty y19_9.ty) = true)) ∨ (¬ (x17.name = y19_9.name)) then .ret false else rSame_l17 y13_3 xs17 (j17 + 1)))
def rSame_l10 (p1 : SourceD) : List EnumD → Nat → Ctl (Bool) (Unit)
 | [], _ => .go ()
 | x10 :: xs10, j10 => (bnd (p1.enums.getD j10 default) fun (y13_3 : EnumD) => (if (¬ (x10.name = y13_3.name)) ∨ (¬ ((x10.variants.length : Int) = (y13_3.variants.length : Int))) then .ret false else (Ctl.bind (rSame_l17 y13_3 x10.variants 0) fun (v17 : Unit) => rSame_l10 p1 xs10 (j10 + 1))))
def rSame_l23 (p1 : SourceD) : List FnD → Nat → Ctl (Bool) (Unit)
 | [], _ => .go ()
 | x23 :: xs23, j23 => (bnd (p1.fns.getD j23 default) fun (y25_9 : FnD) => (if ((¬ ((rSameFields x23.params y25_9.params) = true)) ∨ (¬ ((rSameBlock x23.body y25_9.body) = true))) ∨ (¬ (x23.name = y25_9.name)) then .ret false else rSame_l23 p1 xs23 (j23 + 1)))
def rSame (p0 : SourceD) (p1 : SourceD) : Bool :=
 (if ((¬ ((p0.structs.length : Int) = (p1.structs.length : Int))) ∨ (¬ ((p0.enums.length : Int) = (p1.enums.length : Int)))) ∨ (¬ ((p0.fns.length : Int) = (p1.fns.length : Int))) then false else (Ctl.run (rSame_l4 p1 p0.structs 0) fun (v4 : Unit) => (Ctl.run (rSame_l10 p1 p0.enums 0) fun (v10 : Unit) => (Ctl.run (rSame_l23 p1 p0.fns 0) fun (v23 : Unit) => true))))
set_option maxHeartbeats 40000000 in
theorem w_rSame (p0 : SourceD) (p1 : SourceD)  : QC prog 12 [.agg [.ro 4 (p0.structs.map structC), .ro 3 (p0.enums.map enumC), .ro 4 (p0.fns.map fnC)], .agg [.ro 4 (p1.structs.map structC), .ro 3 (p1.enums.map enumC), .ro 4 (p1.fns.map fnC)]] [] (.b (rSame p0 p1)) [] := by
 refine QC.of_body tabOK func12 rfl (by kernel_rfl) ?_
 simp only [f12]
 generalize e : rSame p0 p1 = R
 unfold rSame at e
 refine EV.seq (EV.regionG tabOK ?_)
 simp (maxSteps := 2000000) -implicitDefEqProofs
 refine EV.seq (EV.seq (EV.regionG tabOK ?_))
 simp (maxSteps := 2000000) -implicitDefEqProofs +contextual
 refine EV.condT ?_
 simp -implicitDefEqProofs
 refine condT_intro (fun k1 => ?_) (fun k1 => ?_)
 ·try simp at k1
  obtain ⟨f1, e⟩ := pos_on2 e (by first | simpa using k1 | grind)
  try simp at f1
  refine EV.seq (EV.regionG tabOK ?_)
  simp (maxSteps := 2000000) -implicitDefEqProofs
  refine EV.ret ?_
  simp only [thenK_ret, blockK_ret, scopeK_ret, bodyK_ret]
  subst e
  refine Fin.pure0 ?_
  first | (simp; done) | (simp <;> grind)
 ·try simp at k1
  obtain ⟨f1, e⟩ := neg_on2 e (by first | simpa using k1 | grind)
  try simp at f1
  refine EV.skip ?_
  simp only [thenK_normal, blockK_normal, scopeK_normal]
  refine EV.seq (EV.seq (EV.regionG tabOK ?_))
  simp (maxSteps := 2000000) -implicitDefEqProofs
  obtain ⟨z4, e4, e⟩ := run_split e
  refine EV.nrm (fun v : { v : (Unit) × (Unit) // z4 = .go v.1 } => (fun (v4 : Unit) (g4 : Unit) => (⟨[J, J, .ptr 0 0 0 0, .ptr 1 0 0 0, J, J, J, J, J, J, J, J, J, J, J, J, J, J, J, J, J, J, J, J, J, J, J, J, J, J, J, J, J, J, J, J, J, J, J, J, J, J, J, J, J, J, J, J, J, J, J, J, J, J, J, J, J, J, J, J, J, J, J, J, J, J, J, J, J, J, J, J, J, J, J, J, J, J, J, J, J, J, J, J, J, J, J, J, J, J, J, J, J, J, J, J, J, J, J, J, J, J, J, J, J, J, J, J, J, J, J, J, J, J, J, J, J, J, J, J, J, J, J, J, J, J, J, J, J, J, J, J, J, J, J, J, J, J, J, J, J, J, J, J, J, J, J, J, J, J, J, J, J, J, J, J, J, J, J, J, J, J, J, J, J, J, J, J, J, J, J, J, J, J, J, J, J, J, J, J, J, J, J, J, J, J, J, J, J, J, J, J, J, J, J, J, J, J, J, J, J, J, J, J, J, J, J, J, J, J, J, J, J, J], [.arr 0 3 [[.ro 4 (p0.structs.map structC), .ro 3 (p0.enums.map enumC), .ro 4 (p0.fns.map fnC)]], .arr 0 3 [[.ro 4 (p1.structs.map structC), .ro 3 (p1.enums.map enumC), .ro 4 (p1.fns.map fnC)]]]⟩ : St)) v.1.1 v.1.2) ?_ ?_
  ·skip
   refine EV.block ?_
   refine EV.loopB (fun x : { x : Nat // x ≤ p0.structs.length ∧ rSame_l4 p1 (p0.structs.drop x) x = z4 } => (fun (j4 : Nat) => (⟨[J, J, .ptr 0 0 0 0, .ptr 1 0 0 0, J, .i .i64 (j4 : Int), J, J, J, J, J, J, J, J, J, J, J, J, J, J, J, J, J, J, J, J, J, J, J, J, J, J, J, J, J, J, J, J, J, J, J, J, J, J, J, J, J, J, J, J, J, J, J, J, J, J, J, J, J, J, J, J, J, J, J, J, J, J, J, J, J, J, J, J, J, J, J, J, J, J, J, J, J, J, J, J, J, J, J, J, J, J, J, J, J, J, J, J, J, J, J, J, J, J, J, J, J, J, J, J, J, J, J, J, J, J, J, J, J, J, J, J, J, J, J, J, J, J, J, J, J, J, J, J, J, J, J, J, J, J, J, J, J, J, J, J, J, J, J, J, J, J, J, J, J, J, J, J, J, J, J, J, J, J, J, J, J, J, J, J, J, J, J, J, J, J, J, J, J, J, J, J, J, J, J, J, J, J, J, J, J, J, J, J, J, J, J, J, J, J, J, J, J, J, J, J, J, J, J, J, J, J, J, J], [.arr 0 3 [[.ro 4 (p0.structs.map structC), .ro 3 (p0.enums.map enumC), .ro 4 (p0.fns.map fnC)]], .arr 0 3 [[.ro 4 (p1.structs.map structC), .ro 3 (p1.enums.map enumC), .ro 4 (p1.fns.map fnC)]]]⟩ : St)) x.1) (fun x => p0.structs.length - x.1) ⟨0, Nat.zero_le _, e4⟩ ?_ ?_
   ·skip
    try dsimp only
    try dsimp only
    refine Sub.cutF 2 (by simp) ?_ ?_ <;> simp [List.range_succ, toIdx_range, passed]
   rintro ⟨j4, hi4, e4⟩
   simp only at hi4 e4 ⊢
   refine EV.seq (EV.seq (EV.regionG tabOK ?_))
   simp (maxSteps := 2000000) -implicitDefEqProofs
   refine EV.room 42 (by rfl) (fun mj4 => ?_)
   simp at mj4
   refine EV.condT ?_
   simp -implicitDefEqProofs
   refine condT_intro (fun k2 => ?_) (fun k2 => ?_)
   ·try simp at k2
    have u2 : j4 < p0.structs.length := by omega
    obtain ⟨x4, hx4⟩ : ∃ z, p0.structs[j4] = z := ⟨_, rfl⟩
    have mx4 : x4 ∈ p0.structs := by rw [← hx4]; exact List.getElem_mem _
    rw [List.drop_eq_getElem_cons u2, hx4, rSame_l4] at e4
    refine EV.skip ?_
    simp only [thenK_normal, blockK_normal, scopeK_normal]
    refine EV.seq (EV.block (EV.seq ?_))
    obtain ⟨y6_9, gy6_9⟩ : ∃ z, (p1.structs.getD j4 default) = z := ⟨_, rfl⟩
    replace e4 := bnd_on e4 gy6_9
    try dsimp only at e4
    have b3 : 0 ≤ (j4 : Int) ∧ (j4 : Int) < (p1.structs.length : Int) := by omega
    have c3 : j4 < p1.structs.length := by omega
    have hy6_9 : p1.structs[j4] = y6_9 := by rw [← gy6_9, List.getD_eq_getElem?_getD, List.getElem?_eq_getElem c3]; rfl
    have my6_9 : y6_9 ∈ p1.structs := by rw [← hy6_9]; exact List.getElem_mem _
    refine EV.drawG tabOK mixedOK ?_
    simp (maxSteps := 2000000) -implicitDefEqProofs [k2, u2, hx4, b3, c3, hy6_9]
    refine callG_fun (w_rSameFields x4.fields y6_9.fields) ?_ ?_
    ·first | (simp; done) | (simp [k2, u2, hx4, b3, c3, hy6_9]; done)
    simp (maxSteps := 2000000) -implicitDefEqProofs [k2, u2, hx4, b3, c3, hy6_9]
    refine And.intro ?_ ?_
    ·first | decide +kernel | (simp -implicitDefEqProofs; decide +kernel) | (split <;> decide +kernel)
    try simp -implicitDefEqProofs
    refine EV.seq ?_
    refine EV.nrm (fun _ : Unit => (⟨[J, J, .ptr 0 0 0 0, .ptr 1 0 0 0, J, .i .i64 (j4 : Int), J, J, J, J, J, J, J, J, J, J, J, J, J, J, J, J, J, J, J, J, J, J, J, J, J, J, J, J, J, J, J, J, J, J, J, J, J, J, J, J, J, J, J, J, J, J, J, J, J, J, J, J, J, J, J, J, J, J, J, J, J, J, J, J, J, J, J, J, J, J, J, J, J, J, J, J, J, J, J, J, J, J, J, J, J, .b (((!(rSameFields x4.fields y6_9.fields)) || (!(decide (x4.name = y6_9.name)))) || (!(x4.drop_ == y6_9.drop_))), J, J, J, J, J, J, J, J, J, J, J, J, J, J, J, J, J, J, J, J, J, J, J, J, J, J, J, J, J, J, J, J, J, J, J, J, J, J, J, J, J, J, J, J, J, J, J, J, J, J, J, J, J, J, J, J, J, J, J, J, J, J, J, J, J, J, J, J, J, J, J, J, J, J, J, J, J, J, J, J, J, J, J, J, J, J, J, J, J, J, J, J, J, J, J, J, J, J, J, J, J, J, J, J, J, J, J, J, J, J, J, J, J, J, J, J, J, J, J, J, J, J], [.arr 0 3 [[.ro 4 (p0.structs.map structC), .ro 3 (p0.enums.map enumC), .ro 4 (p0.fns.map fnC)]], .arr 0 3 [[.ro 4 (p1.structs.map structC), .ro 3 (p1.enums.map enumC), .ro 4 (p1.fns.map fnC)]]]⟩ : St)) ?_ ?_
    ·skip
     cases k5 : (rSameFields x4.fields y6_9.fields)
     ·skip
      have kk5 := k5
      try simp at kk5
      refine EV.drawG tabOK mixedOK ?_
      simp (maxSteps := 2000000) -implicitDefEqProofs +contextual [k2, u2, hx4, b3, c3, hy6_9, k5, kk5]
      refine And.intro ?_ ?_
      ·first | decide +kernel | (simp -implicitDefEqProofs; decide +kernel) | (split <;> decide +kernel)
      try simp -implicitDefEqProofs
      refine ⟨(), ?_⟩
      try dsimp only
      refine Sub.cutF 2 (by simp) ?_ ?_ <;> simp [List.range_succ, toIdx_range, passed, k2, u2, hx4, b3, c3, hy6_9, k5, kk5]
     have kk5 := k5
     try simp at kk5
     by_cases k6 : x4.name = y6_9.name
     ·skip
      have kk6 := k6
      try simp at kk6
      refine EV.drawG tabOK mixedOK ?_
      simp (maxSteps := 2000000) -implicitDefEqProofs +contextual [k2, u2, hx4, b3, c3, hy6_9, k5, kk5, k6, kk6]
      refine And.intro ?_ ?_
      ·first | decide +kernel | (simp -implicitDefEqProofs; decide +kernel) | (split <;> decide +kernel)
      try simp -implicitDefEqProofs
      refine ⟨(), ?_⟩
      try dsimp only
      refine Sub.cutF 2 (by simp) ?_ ?_ <;> simp [List.range_succ, toIdx_range, passed, k2, u2, hx4, b3, c3, hy6_9, k5, kk5, k6, kk6]
     have kk6 := k6
     try simp at kk6
     refine EV.drawG tabOK mixedOK ?_
     simp (maxSteps := 2000000) -implicitDefEqProofs +contextual [k2, u2, hx4, b3, c3, hy6_9, k5, kk5, k6, kk6]
     refine And.intro ?_ ?_
     ·first | decide +kernel | (simp -implicitDefEqProofs; decide +kernel) | (split <;> decide +kernel)
     try simp -implicitDefEqProofs
     refine ⟨(), ?_⟩
     try dsimp only
     refine Sub.cutF 2 (by simp) ?_ ?_ <;> simp [List.range_succ, toIdx_range, passed, k2, u2, hx4, b3, c3, hy6_9, k5, kk5, k6, kk6]
    rintro _
    simp only [thenK_normal, blockK_normal, scopeK_normal, bodyK_normal]
    refine EV.condT ?_
    simp -implicitDefEqProofs [k2, u2, hx4, b3, c3, hy6_9]
    refine condT_intro (fun k7 => ?_) (fun k7 => ?_)
    ·try simp at k7
     obtain ⟨f7, e4⟩ := pos_on2 e4 (by first | simpa using k7 | grind)
     try simp at f7
     refine EV.seq (EV.regionG tabOK ?_)
     simp (maxSteps := 2000000) -implicitDefEqProofs [k2, u2, hx4, b3, c3, hy6_9]
     refine EV.ret ?_
     simp only [thenK_ret, blockK_ret, scopeK_ret, bodyK_ret]
     replace e := run_back e e4
     subst e
     refine Fin.pure0 ?_
     first | (simp; done) | (simp <;> grind)
    try simp at k7
    obtain ⟨f7, e4⟩ := neg_on2 e4 (by first | simpa using k7 | grind)
    try simp at f7
    refine EV.skip ?_
    simp only [thenK_normal, blockK_normal, scopeK_normal]
    refine EV.regionG tabOK ?_
    simp (maxSteps := 2000000) -implicitDefEqProofs [k2, u2, hx4, b3, c3, hy6_9]
    have w4 : IntKind.i64.wrap ((j4 : Int) + 1) = (j4 : Int) + 1 := wrap_in _ (by omega) (by omega)
    refine ⟨⟨j4 + 1, by omega, e4⟩, by dsimp only; omega, ?_⟩
    try dsimp only
    refine Sub.cutF 2 (by simp) ?_ ?_ <;> simp [List.range_succ, toIdx_range, passed, k2, u2, hx4, b3, c3, hy6_9, w4]
   try simp at k2
   have d2 : p0.structs.drop j4 = [] := List.drop_eq_nil_of_le (by omega)
   rw [d2, rSame_l4] at e4
   refine EV.exit ?_
   simp -implicitDefEqProofs
   refine ⟨⟨((), ()), e4.symm⟩, ?_⟩
   try dsimp only
   refine Sub.cutF 2 (by simp) ?_ ?_ <;> simp [List.range_succ, toIdx_range, passed]
  ·skip
   rintro ⟨⟨v4, g4⟩, e4⟩
   simp only [thenK_normal, blockK_normal, scopeK_normal, bodyK_normal]
   replace e := run_on e e4
   try dsimp only at e
   refine EV.seq (EV.seq (EV.regionG tabOK ?_))
   simp (maxSteps := 2000000) -implicitDefEqProofs
   obtain ⟨z10, e10, e⟩ := run_split e
   refine EV.nrm (fun v : { v : (Unit) × (Unit) // z10 = .go v.1 } => (fun (v10 : Unit) (g10 : Unit) => (⟨[J, J, .ptr 0 0 0 0, .ptr 1 0 0 0, J, J, J, J, J, J, J, J, J, J, J, J, J, J, J, J, J, J, J, J, J, J, J, J, J, J, J, J, J, J, J, J, J, J, J, J, J, J, J, J, J, J, J, J, J, J, J, J, J, J, J, J, J, J, J, J, J, J, J, J, J, J, J, J, J, J, J, J, J, J, J, J, J, J, J, J, J, J, J, J, J, J, J, J, J, J, J, J, J, J, J, J, J, J, J, J, J, J, J, J, J, J, J, J, J, J, J, J, J, J, J, J, J, J, J, J, J, J, J, J, J, J, J, J, J, J, J, J, J, J, J, J, J, J, J, J, J, J, J, J, J, J, J, J, J, J, J, J, J, J, J, J, J, J, J, J, J, J, J, J, J, J, J, J, J, J, J, J, J, J, J, J, J, J, J, J, J, J, J, J, J, J, J, J, J, J, J, J, J, J, J, J, J, J, J, J, J, J, J, J, J, J, J, J, J, J, J, J, J, J], [.arr 0 3 [[.ro 4 (p0.structs.map structC), .ro 3 (p0.enums.map enumC), .ro 4 (p0.fns.map fnC)]], .arr 0 3 [[.ro 4 (p1.structs.map structC), .ro 3 (p1.enums.map enumC), .ro 4 (p1.fns.map fnC)]]]⟩ : St)) v.1.1 v.1.2) ?_ ?_
   ·skip
    refine EV.block ?_
    refine EV.loopB (fun x : { x : Nat // x ≤ p0.enums.length ∧ rSame_l10 p1 (p0.enums.drop x) x = z10 } => (fun (j10 : Nat) => (⟨[J, J, .ptr 0 0 0 0, .ptr 1 0 0 0, J, J, J, .i .i64 (j10 : Int), J, J, J, J, J, J, J, J, J, J, J, J, J, J, J, J, J, J, J, J, J, J, J, J, J, J, J, J, J, J, J, J, J, J, J, J, J, J, J, J, J, J, J, J, J, J, J, J, J, J, J, J, J, J, J, J, J, J, J, J, J, J, J, J, J, J, J, J, J, J, J, J, J, J, J, J, J, J, J, J, J, J, J, J, J, J, J, J, J, J, J, J, J, J, J, J, J, J, J, J, J, J, J, J, J, J, J, J, J, J, J, J, J, J, J, J, J, J, J, J, J, J, J, J, J, J, J, J, J, J, J, J, J, J, J, J, J, J, J, J, J, J, J, J, J, J, J, J, J, J, J, J, J, J, J, J, J, J, J, J, J, J, J, J, J, J, J, J, J, J, J, J, J, J, J, J, J, J, J, J, J, J, J, J, J, J, J, J, J, J, J, J, J, J, J, J, J, J, J, J, J, J, J, J, J, J], [.arr 0 3 [[.ro 4 (p0.structs.map structC), .ro 3 (p0.enums.map enumC), .ro 4 (p0.fns.map fnC)]], .arr 0 3 [[.ro 4 (p1.structs.map structC), .ro 3 (p1.enums.map enumC), .ro 4 (p1.fns.map fnC)]]]⟩ : St)) x.1) (fun x => p0.enums.length - x.1) ⟨0, Nat.zero_le _, e10⟩ ?_ ?_
    ·skip
     try dsimp only
     try dsimp only
     refine Sub.cutF 2 (by simp) ?_ ?_ <;> simp [List.range_succ, toIdx_range, passed]
    rintro ⟨j10, hi10, e10⟩
    simp only at hi10 e10 ⊢
    refine EV.seq (EV.seq (EV.regionG tabOK ?_))
    simp (maxSteps := 2000000) -implicitDefEqProofs
    refine EV.room 94 (by rfl) (fun mj10 => ?_)
    simp at mj10
    refine EV.condT ?_
    simp -implicitDefEqProofs
    refine condT_intro (fun k8 => ?_) (fun k8 => ?_)
    ·try simp at k8
     have u8 : j10 < p0.enums.length := by omega
     obtain ⟨x10, hx10⟩ : ∃ z, p0.enums[j10] = z := ⟨_, rfl⟩
     have mx10 : x10 ∈ p0.enums := by rw [← hx10]; exact List.getElem_mem _
     rw [List.drop_eq_getElem_cons u8, hx10, rSame_l10] at e10
     refine EV.skip ?_
     simp only [thenK_normal, blockK_normal, scopeK_normal]
     refine EV.seq (EV.block (EV.seq (EV.regionG tabOK ?_)))
     simp (maxSteps := 2000000) -implicitDefEqProofs [k8, u8, hx10]
     refine EV.seq ?_
     obtain ⟨y13_3, gy13_3⟩ : ∃ z, (p1.enums.getD j10 default) = z := ⟨_, rfl⟩
     replace e10 := bnd_on e10 gy13_3
     try dsimp only at e10
     have b9 : 0 ≤ (j10 : Int) ∧ (j10 : Int) < (p1.enums.length : Int) := by omega
     have c9 : j10 < p1.enums.length := by omega
     have hy13_3 : p1.enums[j10] = y13_3 := by rw [← gy13_3, List.getD_eq_getElem?_getD, List.getElem?_eq_getElem c9]; rfl
     have my13_3 : y13_3 ∈ p1.enums := by rw [← hy13_3]; exact List.getElem_mem _
     refine EV.regionG tabOK ?_
     simp (maxSteps := 2000000) -implicitDefEqProofs [k8, u8, hx10, b9, c9, hy13_3]
     refine EV.seq (EV.seq (EV.regionG tabOK ?_))
     simp (maxSteps := 2000000) -implicitDefEqProofs +contextual [k8, u8, hx10, b9, c9, hy13_3]
     refine EV.condT ?_
     simp -implicitDefEqProofs [k8, u8, hx10, b9, c9, hy13_3]
     refine condT_intro (fun k10 => ?_) (fun k10 => ?_)
     ·try simp at k10
      obtain ⟨f10, e10⟩ := pos_on2 e10 (by first | simpa using k10 | grind)
      try simp at f10
      refine EV.seq (EV.regionG tabOK ?_)
      simp (maxSteps := 2000000) -implicitDefEqProofs [k8, u8, hx10, b9, c9, hy13_3]
      refine EV.ret ?_
      simp only [thenK_ret, blockK_ret, scopeK_ret, bodyK_ret]
      replace e := run_back e e10
      subst e
      refine Fin.pure0 ?_
      first | (simp; done) | (simp <;> grind)
     try simp at k10
     obtain ⟨f10, e10⟩ := neg_on2 e10 (by first | simpa using k10 | grind)
     try simp at f10
     refine EV.skip ?_
     simp only [thenK_normal, blockK_normal, scopeK_normal]
     refine EV.seq (EV.regionG tabOK ?_)
     simp (maxSteps := 2000000) -implicitDefEqProofs [k8, u8, hx10, b9, c9, hy13_3]
     obtain ⟨z17, e17, e10⟩ := bind_split e10
     refine EV.nrm (fun v : { v : (Unit) × (Unit) // z17 = .go v.1 } => (fun (v17 : Unit) (g17 : Unit) => (⟨[J, J, .ptr 0 0 0 0, .ptr 1 0 0 0, J, J, J, .i .i64 (j10 : Int), J, J, J, J, J, J, J, J, J, J, J, J, J, J, J, J, J, J, J, J, J, J, J, J, J, J, J, J, J, J, J, J, J, J, J, J, J, J, J, J, J, J, J, J, J, J, J, J, J, J, J, J, J, J, J, J, J, J, J, J, J, J, J, J, J, J, J, J, J, J, J, J, J, J, J, J, J, J, J, J, J, J, J, J, J, J, J, J, J, J, J, J, J, J, J, J, J, J, J, J, J, J, J, J, J, J, J, J, J, J, J, J, J, J, J, J, J, J, J, J, J, J, J, J, J, J, J, J, J, J, J, J, J, J, J, J, J, J, J, J, J, J, J, J, J, J, J, J, J, J, J, J, J, J, J, J, J, J, J, J, J, J, J, J, J, J, J, J, J, J, J, J, J, J, J, J, J, J, J, J, J, J, J, J, J, J, J, J, J, J, J, J, J, J, J, J, J, J, J, J, J, J, J, J, J, J], [.arr 0 3 [[.ro 4 (p0.structs.map structC), .ro 3 (p0.enums.map enumC), .ro 4 (p0.fns.map fnC)]], .arr 0 3 [[.ro 4 (p1.structs.map structC), .ro 3 (p1.enums.map enumC), .ro 4 (p1.fns.map fnC)]]]⟩ : St)) v.1.1 v.1.2) ?_ ?_
     ·skip
      refine EV.block ?_
      refine EV.loopB (fun x : { x : Nat // x ≤ x10.variants.length ∧ rSame_l17 y13_3 (x10.variants.drop x) x = z17 } => (fun (j17 : Nat) => (⟨[J, J, .ptr 0 0 0 0, .ptr 1 0 0 0, J, J, J, .i .i64 (j10 : Int), .ptr 2 0 0 0, .ptr 3 0 0 0, .i .i64 (j17 : Int), J, J, J, J, J, J, J, J, J, J, J, J, J, J, J, J, J, J, J, J, J, J, J, J, J, J, J, J, J, J, J, J, J, J, J, J, J, J, J, J, J, J, J, J, J, J, J, J, J, J, J, J, J, J, J, J, J, J, J, J, J, J, J, J, J, J, J, J, J, J, J, J, J, J, J, J, J, J, J, J, J, J, J, J, J, J, J, J, J, J, J, J, J, J, J, J, J, J, J, J, J, J, J, J, J, J, J, J, J, J, J, J, J, J, J, J, J, J, J, J, J, J, J, J, J, J, J, J, J, J, J, J, J, J, J, J, J, J, J, J, J, J, J, J, J, J, J, J, J, J, J, J, J, J, J, J, J, J, J, J, J, J, J, J, J, J, J, J, J, J, J, J, J, J, J, J, J, J, J, J, J, J, J, J, J, J, J, J, J, J, J, J, J, J, J, J, J, J, J, J, J, J, J], [.arr 0 3 [[.ro 4 (p0.structs.map structC), .ro 3 (p0.enums.map enumC), .ro 4 (p0.fns.map fnC)]], .arr 0 3 [[.ro 4 (p1.structs.map structC), .ro 3 (p1.enums.map enumC), .ro 4 (p1.fns.map fnC)]], .arr 0 3 [[.s x10.name, .ro 4 (x10.variants.map variantC), .i .i64 x10.at_]], .arr 0 3 [[.s y13_3.name, .ro 4 (y13_3.variants.map variantC), .i .i64 y13_3.at_]]]⟩ : St)) x.1) (fun x => x10.variants.length - x.1) ⟨0, Nat.zero_le _, e17⟩ ?_ ?_
      ·skip
       try dsimp only
       try dsimp only
       refine Sub.cutF 4 (by simp) ?_ ?_ <;> simp [List.range_succ, toIdx_range, passed, k8, u8, hx10, b9, c9, hy13_3]
      rintro ⟨j17, hi17, e17⟩
      simp only at hi17 e17 ⊢
      refine EV.seq (EV.seq (EV.regionG tabOK ?_))
      simp (maxSteps := 2000000) -implicitDefEqProofs [k8, u8, hx10, b9, c9, hy13_3]
      refine EV.room 125 (by rfl) (fun mj17 => ?_)
      simp at mj17
      refine EV.condT ?_
      simp -implicitDefEqProofs [k8, u8, hx10, b9, c9, hy13_3]
      refine condT_intro (fun k11 => ?_) (fun k11 => ?_)
      ·try simp at k11
       have u11 : j17 < x10.variants.length := by omega
       obtain ⟨x17, hx17⟩ : ∃ z, x10.variants[j17] = z := ⟨_, rfl⟩
       have mx17 : x17 ∈ x10.variants := by rw [← hx17]; exact List.getElem_mem _
       rw [List.drop_eq_getElem_cons u11, hx17, rSame_l17] at e17
       refine EV.skip ?_
       simp only [thenK_normal, blockK_normal, scopeK_normal]
       refine EV.seq (EV.block (EV.seq ?_))
       obtain ⟨y19_9, gy19_9⟩ : ∃ z, (y13_3.variants.getD j17 default) = z := ⟨_, rfl⟩
       replace e17 := bnd_on e17 gy19_9
       try dsimp only at e17
       have b12 : 0 ≤ (j17 : Int) ∧ (j17 : Int) < (y13_3.variants.length : Int) := by omega
       have c12 : j17 < y13_3.variants.length := by omega
       have hy19_9 : y13_3.variants[j17] = y19_9 := by rw [← gy19_9, List.getD_eq_getElem?_getD, List.getElem?_eq_getElem c12]; rfl
       have my19_9 : y19_9 ∈ y13_3.variants := by rw [← hy19_9]; exact List.getElem_mem _
       refine EV.drawG tabOK mixedOK ?_
       simp (maxSteps := 2000000) -implicitDefEqProofs [k8, u8, hx10, b9, c9, hy13_3, k11, u11, hx17, b12, c12, hy19_9]
       refine callG_fun (w_rSameTy x17.ty y19_9.ty) ?_ ?_
       ·first | (simp; done) | (simp [k8, u8, hx10, b9, c9, hy13_3, k11, u11, hx17, b12, c12, hy19_9]; done)
       simp (maxSteps := 2000000) -implicitDefEqProofs [k8, u8, hx10, b9, c9, hy13_3, k11, u11, hx17, b12, c12, hy19_9]
       refine And.intro ?_ ?_
       ·first | decide +kernel | (simp -implicitDefEqProofs; decide +kernel) | (split <;> decide +kernel)
       try simp -implicitDefEqProofs
       refine EV.seq ?_
       refine EV.nrm (fun _ : Unit => (⟨[J, J, .ptr 0 0 0 0, .ptr 1 0 0 0, J, J, J, .i .i64 (j10 : Int), .ptr 2 0 0 0, .ptr 3 0 0 0, .i .i64 (j17 : Int), J, J, J, J, J, J, J, J, J, J, J, J, J, J, J, J, J, J, J, J, J, J, J, J, J, J, J, J, J, J, J, J, J, J, J, J, J, J, J, J, J, J, J, J, J, J, J, J, J, J, J, J, J, J, J, J, J, J, J, J, J, J, J, J, J, J, J, J, J, J, J, J, J, J, J, J, J, J, J, J, J, J, J, J, J, J, J, J, J, J, J, J, J, J, J, J, J, J, J, J, J, J, J, J, J, J, J, J, J, J, J, J, J, J, J, J, J, J, J, J, J, J, J, J, J, J, J, J, J, J, J, J, J, J, J, J, J, J, J, J, J, J, J, J, J, J, J, J, .b ((!(rSameTy x17.ty y19_9.ty)) || (!(decide (x17.name = y19_9.name)))), J, J, J, J, J, J, J, J, J, J, J, J, J, J, J, J, J, J, J, J, J, J, J, J, J, J, J, J, J, J, J, J, J, J, J, J, J, J, J, J, J, J, J, J, J, J, J, J, J, J, J, J, J, J], [.arr 0 3 [[.ro 4 (p0.structs.map structC), .ro 3 (p0.enums.map enumC), .ro 4 (p0.fns.map fnC)]], .arr 0 3 [[.ro 4 (p1.structs.map structC), .ro 3 (p1.enums.map enumC), .ro 4 (p1.fns.map fnC)]], .arr 0 3 [[.s x10.name, .ro 4 (x10.variants.map variantC), .i .i64 x10.at_]], .arr 0 3 [[.s y13_3.name, .ro 4 (y13_3.variants.map variantC), .i .i64 y13_3.at_]]]⟩ : St)) ?_ ?_
       ·skip
        cases k14 : (rSameTy x17.ty y19_9.ty)
        ·skip
         have kk14 := k14
         try simp at kk14
         refine EV.drawG tabOK mixedOK ?_
         simp (maxSteps := 2000000) -implicitDefEqProofs +contextual [k8, u8, hx10, b9, c9, hy13_3, k11, u11, hx17, b12, c12, hy19_9, k14, kk14]
         refine And.intro ?_ ?_
         ·first | decide +kernel | (simp -implicitDefEqProofs; decide +kernel) | (split <;> decide +kernel)
         try simp -implicitDefEqProofs
         refine ⟨(), ?_⟩
         try dsimp only
         refine Sub.cutF 4 (by simp) ?_ ?_ <;> simp [List.range_succ, toIdx_range, passed, k8, u8, hx10, b9, c9, hy13_3, k11, u11, hx17, b12, c12, hy19_9, k14, kk14]
        have kk14 := k14
        try simp at kk14
        refine EV.drawG tabOK mixedOK ?_
        simp (maxSteps := 2000000) -implicitDefEqProofs +contextual [k8, u8, hx10, b9, c9, hy13_3, k11, u11, hx17, b12, c12, hy19_9, k14, kk14]
        refine And.intro ?_ ?_
        ·first | decide +kernel | (simp -implicitDefEqProofs; decide +kernel) | (split <;> decide +kernel)
        try simp -implicitDefEqProofs
        refine ⟨(), ?_⟩
        try dsimp only
        refine Sub.cutF 4 (by simp) ?_ ?_ <;> simp [List.range_succ, toIdx_range, passed, k8, u8, hx10, b9, c9, hy13_3, k11, u11, hx17, b12, c12, hy19_9, k14, kk14]
       rintro _
       simp only [thenK_normal, blockK_normal, scopeK_normal, bodyK_normal]
       refine EV.condT ?_
       simp -implicitDefEqProofs [k8, u8, hx10, b9, c9, hy13_3, k11, u11, hx17, b12, c12, hy19_9]
       refine condT_intro (fun k15 => ?_) (fun k15 => ?_)
       ·try simp at k15
        obtain ⟨f15, e17⟩ := pos_on2 e17 (by first | simpa using k15 | grind)
        try simp at f15
        refine EV.seq (EV.regionG tabOK ?_)
        simp (maxSteps := 2000000) -implicitDefEqProofs [k8, u8, hx10, b9, c9, hy13_3, k11, u11, hx17, b12, c12, hy19_9]
        refine EV.ret ?_
        simp only [thenK_ret, blockK_ret, scopeK_ret, bodyK_ret]
        replace e10 := bind_back e10 e17
        replace e := run_back e e10
        subst e
        refine Fin.pure0 ?_
        first | (simp; done) | (simp <;> grind)
       try simp at k15
       obtain ⟨f15, e17⟩ := neg_on2 e17 (by first | simpa using k15 | grind)
       try simp at f15
       refine EV.skip ?_
       simp only [thenK_normal, blockK_normal, scopeK_normal]
       refine EV.regionG tabOK ?_
       simp (maxSteps := 2000000) -implicitDefEqProofs [k8, u8, hx10, b9, c9, hy13_3, k11, u11, hx17, b12, c12, hy19_9]
       have w17 : IntKind.i64.wrap ((j17 : Int) + 1) = (j17 : Int) + 1 := wrap_in _ (by omega) (by omega)
       refine ⟨⟨j17 + 1, by omega, e17⟩, by dsimp only; omega, ?_⟩
       try dsimp only
       refine Sub.cutF 4 (by simp) ?_ ?_ <;> simp [List.range_succ, toIdx_range, passed, k8, u8, hx10, b9, c9, hy13_3, k11, u11, hx17, b12, c12, hy19_9, w17]
      try simp at k11
      have d11 : x10.variants.drop j17 = [] := List.drop_eq_nil_of_le (by omega)
      rw [d11, rSame_l17] at e17
      refine EV.exit ?_
      simp -implicitDefEqProofs
      refine ⟨⟨((), ()), e17.symm⟩, ?_⟩
      try dsimp only
      refine Sub.cutF 2 (by simp) ?_ ?_ <;> simp [List.range_succ, toIdx_range, passed, k8, u8, hx10, b9, c9, hy13_3]
     rintro ⟨⟨v17, g17⟩, e17⟩
     simp only [thenK_normal, blockK_normal, scopeK_normal, bodyK_normal]
     replace e10 := bind_on e10 e17
     try dsimp only at e10
     refine EV.regionG tabOK ?_
     simp (maxSteps := 2000000) -implicitDefEqProofs [k8, u8, hx10, b9, c9, hy13_3]
     have w10 : IntKind.i64.wrap ((j10 : Int) + 1) = (j10 : Int) + 1 := wrap_in _ (by omega) (by omega)
     refine ⟨⟨j10 + 1, by omega, e10⟩, by dsimp only; omega, ?_⟩
     try dsimp only
     refine Sub.cutF 2 (by simp) ?_ ?_ <;> simp [List.range_succ, toIdx_range, passed, k8, u8, hx10, b9, c9, hy13_3, w10]
    try simp at k8
    have d8 : p0.enums.drop j10 = [] := List.drop_eq_nil_of_le (by omega)
    rw [d8, rSame_l10] at e10
    refine EV.exit ?_
    simp -implicitDefEqProofs
    refine ⟨⟨((), ()), e10.symm⟩, ?_⟩
    try dsimp only
    refine Sub.cutF 2 (by simp) ?_ ?_ <;> simp [List.range_succ, toIdx_range, passed]
   ·skip
    rintro ⟨⟨v10, g10⟩, e10⟩
    simp only [thenK_normal, blockK_normal, scopeK_normal, bodyK_normal]
    replace e := run_on e e10
    try dsimp only at e
    refine EV.seq (EV.seq (EV.regionG tabOK ?_))
    simp (maxSteps := 2000000) -implicitDefEqProofs
    obtain ⟨z23, e23, e⟩ := run_split e
    refine EV.nrm (fun v : { v : (Unit) × (Unit) // z23 = .go v.1 } => (fun (v23 : Unit) (g23 : Unit) => (⟨[J, J, J, J, J, J, J, J, J, J, J, J, J, J, J, J, J, J, J, J, J, J, J, J, J, J, J, J, J, J, J, J, J, J, J, J, J, J, J, J, J, J, J, J, J, J, J, J, J, J, J, J, J, J, J, J, J, J, J, J, J, J, J, J, J, J, J, J, J, J, J, J, J, J, J, J, J, J, J, J, J, J, J, J, J, J, J, J, J, J, J, J, J, J, J, J, J, J, J, J, J, J, J, J, J, J, J, J, J, J, J, J, J, J, J, J, J, J, J, J, J, J, J, J, J, J, J, J, J, J, J, J, J, J, J, J, J, J, J, J, J, J, J, J, J, J, J, J, J, J, J, J, J, J, J, J, J, J, J, J, J, J, J, J, J, J, J, J, J, J, J, J, J, J, J, J, J, J, J, J, J, J, J, J, J, J, J, J, J, J, J, J, J, J, J, J, J, J, J, J, J, J, J, J, J, J, J, J, J, J, J, J, J, J], []⟩ : St)) v.1.1 v.1.2) ?_ ?_
    ·skip
     refine EV.block ?_
     refine EV.loopB (fun x : { x : Nat // x ≤ p0.fns.length ∧ rSame_l23 p1 (p0.fns.drop x) x = z23 } => (fun (j23 : Nat) => (⟨[J, J, .ptr 0 0 0 0, .ptr 1 0 0 0, J, J, J, J, J, J, J, J, .i .i64 (j23 : Int), J, J, J, J, J, J, J, J, J, J, J, J, J, J, J, J, J, J, J, J, J, J, J, J, J, J, J, J, J, J, J, J, J, J, J, J, J, J, J, J, J, J, J, J, J, J, J, J, J, J, J, J, J, J, J, J, J, J, J, J, J, J, J, J, J, J, J, J, J, J, J, J, J, J, J, J, J, J, J, J, J, J, J, J, J, J, J, J, J, J, J, J, J, J, J, J, J, J, J, J, J, J, J, J, J, J, J, J, J, J, J, J, J, J, J, J, J, J, J, J, J, J, J, J, J, J, J, J, J, J, J, J, J, J, J, J, J, J, J, J, J, J, J, J, J, J, J, J, J, J, J, J, J, J, J, J, J, J, J, J, J, J, J, J, J, J, J, J, J, J, J, J, J, J, J, J, J, J, J, J, J, J, J, J, J, J, J, J, J, J, J, J, J, J, J, J, J, J, J, J, J], [.arr 0 3 [[.ro 4 (p0.structs.map structC), .ro 3 (p0.enums.map enumC), .ro 4 (p0.fns.map fnC)]], .arr 0 3 [[.ro 4 (p1.structs.map structC), .ro 3 (p1.enums.map enumC), .ro 4 (p1.fns.map fnC)]]]⟩ : St)) x.1) (fun x => p0.fns.length - x.1) ⟨0, Nat.zero_le _, e23⟩ ?_ ?_
     ·skip
      try dsimp only
      try dsimp only
      refine Sub.cutF 2 (by simp) ?_ ?_ <;> simp [List.range_succ, toIdx_range, passed]
     rintro ⟨j23, hi23, e23⟩
     simp only at hi23 e23 ⊢
     refine EV.seq (EV.seq (EV.regionG tabOK ?_))
     simp (maxSteps := 2000000) -implicitDefEqProofs
     refine EV.room 162 (by rfl) (fun mj23 => ?_)
     simp at mj23
     refine EV.condT ?_
     simp -implicitDefEqProofs
     refine condT_intro (fun k16 => ?_) (fun k16 => ?_)
     ·try simp at k16
      have u16 : j23 < p0.fns.length := by omega
      obtain ⟨x23, hx23⟩ : ∃ z, p0.fns[j23] = z := ⟨_, rfl⟩
      have mx23 : x23 ∈ p0.fns := by rw [← hx23]; exact List.getElem_mem _
      rw [List.drop_eq_getElem_cons u16, hx23, rSame_l23] at e23
      refine EV.skip ?_
      simp only [thenK_normal, blockK_normal, scopeK_normal]
      refine EV.seq (EV.block (EV.seq ?_))
      obtain ⟨y25_9, gy25_9⟩ : ∃ z, (p1.fns.getD j23 default) = z := ⟨_, rfl⟩
      replace e23 := bnd_on e23 gy25_9
      try dsimp only at e23
      have b17 : 0 ≤ (j23 : Int) ∧ (j23 : Int) < (p1.fns.length : Int) := by omega
      have c17 : j23 < p1.fns.length := by omega
      have hy25_9 : p1.fns[j23] = y25_9 := by rw [← gy25_9, List.getD_eq_getElem?_getD, List.getElem?_eq_getElem c17]; rfl
      have my25_9 : y25_9 ∈ p1.fns := by rw [← hy25_9]; exact List.getElem_mem _
      refine EV.drawG tabOK mixedOK ?_
      simp (maxSteps := 2000000) -implicitDefEqProofs [k16, u16, hx23, b17, c17, hy25_9]
      refine callG_fun (w_rSameFields x23.params y25_9.params) ?_ ?_
      ·first | (simp; done) | (simp [k16, u16, hx23, b17, c17, hy25_9]; done)
      simp (maxSteps := 2000000) -implicitDefEqProofs [k16, u16, hx23, b17, c17, hy25_9]
      refine And.intro ?_ ?_
      ·first | decide +kernel | (simp -implicitDefEqProofs; decide +kernel) | (split <;> decide +kernel)
      try simp -implicitDefEqProofs
      refine EV.seq (EV.drawG tabOK mixedOK ?_)
      simp (maxSteps := 2000000) -implicitDefEqProofs [k16, u16, hx23, b17, c17, hy25_9]
      refine callG_fun (w_rSameBlock x23.body y25_9.body) ?_ ?_
      ·first | (simp; done) | (simp [k16, u16, hx23, b17, c17, hy25_9]; done)
      simp (maxSteps := 2000000) -implicitDefEqProofs [k16, u16, hx23, b17, c17, hy25_9]
      refine And.intro ?_ ?_
      ·first | decide +kernel | (simp -implicitDefEqProofs; decide +kernel) | (split <;> decide +kernel)
      try simp -implicitDefEqProofs
      refine EV.seq ?_
      refine EV.nrm (fun _ : Unit => (⟨[J, J, .ptr 0 0 0 0, .ptr 1 0 0 0, J, J, J, J, J, J, J, J, .i .i64 (j23 : Int), J, J, J, J, J, J, J, J, J, J, J, J, J, J, J, J, J, J, J, J, J, J, J, J, J, J, J, J, J, J, J, J, J, J, J, J, J, J, J, J, J, J, J, J, J, J, J, J, J, J, J, J, J, J, J, J, J, J, J, J, J, J, J, J, J, J, J, J, J, J, J, J, J, J, J, J, J, J, J, J, J, J, J, J, J, J, J, J, J, J, J, J, J, J, J, J, J, J, J, J, J, J, J, J, J, J, J, J, J, J, J, J, J, J, J, J, J, J, J, J, J, J, J, J, J, J, J, J, J, J, J, J, J, J, J, J, J, J, J, J, J, J, J, J, J, J, J, J, J, J, J, J, J, J, J, J, J, J, J, J, J, J, J, J, J, J, J, J, J, J, J, J, J, J, J, J, J, J, J, J, J, J, J, J, J, J, J, J, J, J, J, J, J, J, J, J, J, J, J, J, .b (((!(rSameFields x23.params y25_9.params)) || (!(rSameBlock x23.body y25_9.body))) || (!(decide (x23.name = y25_9.name))))], [.arr 0 3 [[.ro 4 (p0.structs.map structC), .ro 3 (p0.enums.map enumC), .ro 4 (p0.fns.map fnC)]], .arr 0 3 [[.ro 4 (p1.structs.map structC), .ro 3 (p1.enums.map enumC), .ro 4 (p1.fns.map fnC)]]]⟩ : St)) ?_ ?_
      ·skip
       cases k19 : (rSameFields x23.params y25_9.params)
       ·skip
        have kk19 := k19
        try simp at kk19
        refine EV.drawG tabOK mixedOK ?_
        simp (maxSteps := 2000000) -implicitDefEqProofs +contextual [k16, u16, hx23, b17, c17, hy25_9, k19, kk19]
        refine And.intro ?_ ?_
        ·first | decide +kernel | (simp -implicitDefEqProofs; decide +kernel) | (split <;> decide +kernel)
        try simp -implicitDefEqProofs
        refine ⟨(), ?_⟩
        try dsimp only
        refine Sub.cutF 2 (by simp) ?_ ?_ <;> simp [List.range_succ, toIdx_range, passed, k16, u16, hx23, b17, c17, hy25_9, k19, kk19]
       have kk19 := k19
       try simp at kk19
       cases k20 : (rSameBlock x23.body y25_9.body)
       ·skip
        have kk20 := k20
        try simp at kk20
        refine EV.drawG tabOK mixedOK ?_
        simp (maxSteps := 2000000) -implicitDefEqProofs +contextual [k16, u16, hx23, b17, c17, hy25_9, k19, kk19, k20, kk20]
        refine And.intro ?_ ?_
        ·first | decide +kernel | (simp -implicitDefEqProofs; decide +kernel) | (split <;> decide +kernel)
        try simp -implicitDefEqProofs
        refine ⟨(), ?_⟩
        try dsimp only
        refine Sub.cutF 2 (by simp) ?_ ?_ <;> simp [List.range_succ, toIdx_range, passed, k16, u16, hx23, b17, c17, hy25_9, k19, kk19, k20, kk20]
       have kk20 := k20
       try simp at kk20
       refine EV.drawG tabOK mixedOK ?_
       simp (maxSteps := 2000000) -implicitDefEqProofs +contextual [k16, u16, hx23, b17, c17, hy25_9, k19, kk19, k20, kk20]
       refine And.intro ?_ ?_
       ·first | decide +kernel | (simp -implicitDefEqProofs; decide +kernel) | (split <;> decide +kernel)
       try simp -implicitDefEqProofs
       refine ⟨(), ?_⟩
       try dsimp only
       refine Sub.cutF 2 (by simp) ?_ ?_ <;> simp [List.range_succ, toIdx_range, passed, k16, u16, hx23, b17, c17, hy25_9, k19, kk19, k20, kk20]
      rintro _
      simp only [thenK_normal, blockK_normal, scopeK_normal, bodyK_normal]
      refine EV.condT ?_
      simp -implicitDefEqProofs [k16, u16, hx23, b17, c17, hy25_9]
      refine condT_intro (fun k21 => ?_) (fun k21 => ?_)
      ·try simp at k21
       obtain ⟨f21, e23⟩ := pos_on2 e23 (by first | simpa using k21 | grind)
       try simp at f21
       refine EV.seq (EV.regionG tabOK ?_)
       simp (maxSteps := 2000000) -implicitDefEqProofs [k16, u16, hx23, b17, c17, hy25_9]
       refine EV.ret ?_
       simp only [thenK_ret, blockK_ret, scopeK_ret, bodyK_ret]
       replace e := run_back e e23
       subst e
       refine Fin.pure0 ?_
       first | (simp; done) | (simp <;> grind)
      try simp at k21
      obtain ⟨f21, e23⟩ := neg_on2 e23 (by first | simpa using k21 | grind)
      try simp at f21
      refine EV.skip ?_
      simp only [thenK_normal, blockK_normal, scopeK_normal]
      refine EV.regionG tabOK ?_
      simp (maxSteps := 2000000) -implicitDefEqProofs [k16, u16, hx23, b17, c17, hy25_9]
      have w23 : IntKind.i64.wrap ((j23 : Int) + 1) = (j23 : Int) + 1 := wrap_in _ (by omega) (by omega)
      refine ⟨⟨j23 + 1, by omega, e23⟩, by dsimp only; omega, ?_⟩
      try dsimp only
      refine Sub.cutF 2 (by simp) ?_ ?_ <;> simp [List.range_succ, toIdx_range, passed, k16, u16, hx23, b17, c17, hy25_9, w23]
     try simp at k16
     have d16 : p0.fns.drop j23 = [] := List.drop_eq_nil_of_le (by omega)
     rw [d16, rSame_l23] at e23
     refine EV.exit ?_
     simp -implicitDefEqProofs
     refine ⟨⟨((), ()), e23.symm⟩, ?_⟩
     try dsimp only
     refine Sub.cutF 0 (by simp) ?_ ?_ <;> simp [List.range_succ, toIdx_range, passed]
    ·skip
     rintro ⟨⟨v23, g23⟩, e23⟩
     simp only [thenK_normal, blockK_normal, scopeK_normal, bodyK_normal]
     replace e := run_on e e23
     try dsimp only at e
     refine EV.seq (EV.regionG tabOK ?_)
     simp (maxSteps := 2000000) -implicitDefEqProofs
     refine EV.ret ?_
     simp only [thenK_ret, blockK_ret, scopeK_ret, bodyK_ret]
     subst e
     refine Fin.pure0 ?_
     first | (simp; done) | (simp <;> grind)
end
end Go.Proofs.Tryz
end
