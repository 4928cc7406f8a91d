/- Contracts of the program's functions that compare two sources. -/
import Derived.Test.YtakfpmogpnoibaaGreatDoorRefA
set_option linter.unusedVariables false
set_option linter.unusedSimpArgs false
set_option linter.constructorNameAsVariable false
section
namespace Go.Proofs.Tryz
open Go Go.AM
attribute [local simp] wpG_op wpG_nil contG_some wpG_guard guardG_v guardG_o guardG_tup gval pureOp stepG_if isPick pickG_pick pickB_b pickOK isCall step_move step_assign step_alloc step_box boxV_some step_load step_store step_binOp step_unOp step_fieldAddr faV step_indexAddr ixA_slc ixA_arr step_extract extV_tup step_nilCheck ncV_ptr ncV_rp ncV_fn ncV_mp step_build buildV step_buildSlice bsV step_index ixV_arr ixV_str step_append apB step_makeSlice msV_i step_makeFunc over step_len step_makeMap mmV step_mapUpdate step_insert muA_map muB_mp step_lookup lkA_map lkB_mp step_slice slcV_s slcV_sl slcV_ro cutB_some slObV_arr bound_none bound_some bndV_i lenB_str lenB_ro lenB_sl lenB_nil lenB_z ld_ptr ld_rp offV_ptr offV_rp idxV_ro idxV_sl unV_not unV_neg binV_int binV_str binV_eqlb binV_neqb intOp strOp St.put updL setOb St.ev toV St.lk cellsOf AM.valOf TK.agg stv fillV places TI.zero condT_true condT_false finS resL resSlot packV ren ren1 ren0 Value.cells builtinV appendV elemsOf keepT room_of wrap_in toIdx passed Function.comp_def take_len_map lenV touchOf hid tab1 tab2 tab3 tab4 tab5 tab6 tab7 tab8 tab9 tab20 tab22 tab23 tab24 tab26 tab32 tab33 tab35 tab36 tab37 tab39 tab41 tab42 tab43 tab45 tab46 tab47 tab49 tab50 tab52 tab74 tab79 tab83 tab86 tab87 tab89 tab92 tab100 tab101 tab102 tab103 tab105 tab107 tab108 tab113 tab114 tab116 tab117 tab118 tab122 tab123 tab125 tab127 tab130 tab132 tab136 tab173 tab175 tab178 tab179 tab180 tab182 tab189 tab215 tab219 tab220 tab224 tab225 tab241 tab244 tab247 tab253 tab261 tab262 tab265 tab266 armC_eq blockC_eq bodyC_eq enumC_eq fieldC_eq fnC_eq inC_eq localC_eq mirBodyC_eq operC_eq placeC_eq rvC_eq sourceC_eq spotC_eq stepC_eq stmtC_eq structC_eq tmC_eq tyC_eq useC_eq valueC_eq variantC_eq binV_eqls binV_neqs cutL_nil cutL_junk cutL_cons ren_arr ren_gone ren_unborn ren_var ren_row step_convert cvV_i cvV_sl cvV_s cvK_slc cvE_u8 bytesOf bor1 bor2 bor3 bor4
set_option linter.unusedSimpArgs false
set_option linter.unusedVariables false
set_option maxRecDepth 10000
set_option maxHeartbeats 40000000
noncomputable section
def eqTy_l4 (p1 : List TyD) (p2 : TyD → TyD → Bool) : List TyD → Nat → Ctl (Bool) (Unit)
 | [], _ => .go ()
 | x4 :: xs4, j4 => (bnd (p1.getD j4 default) fun (y6_2 : TyD) => (if ¬ ((p2 x4 y6_2) = true) then .ret false else eqTy_l4 p1 p2 xs4 (j4 + 1)))
def eqTy (p0 : List TyD) (p1 : List TyD) (p2 : TyD → TyD → Bool) : Bool :=
 (if ¬ ((p0.length : Int) = (p1.length : Int)) then false else (Ctl.run (eqTy_l4 p1 p2 p0 0) fun (v4 : Unit) => true))
theorem w_eqTy0 (p0 : List TyD) (p1 : List TyD) (p2 : TyD → TyD → Bool)  (fid2 : FuncId) (H2 : ∀ (u0 : TyD) (u1 : TyD), u0 ∈ p0 → QC prog fid2 [.agg [.i .i64 u0.k, .s u0.name, .ro 3 (u0.l.map tyC)], .agg [.i .i64 u1.k, .s u1.name, .ro 3 (u1.l.map tyC)]] [] (.b (p2 u0 u1)) []) : QC prog 106 [.ro 3 (p0.map tyC), .ro 3 (p1.map tyC), .fn fid2 []] [] (.b (eqTy p0 p1 p2)) [] := by
 refine QC.of_body tabOK func106 rfl (by kernel_rfl) ?_
 simp only [f106]
 generalize e : eqTy p0 p1 p2 = R
 unfold eqTy at e
 refine SR ?_
 simp (maxSteps := 2000000) -implicitDefEqProofs
 refine EV.seq (SR ?_)
 simp (maxSteps := 2000000) -implicitDefEqProofs
 refine EV.condT ?_
 simp -implicitDefEqProofs
 refine condT_intro (fun k1 => ?_) (fun k1 => ?_)
 ·try simp at k1
  obtain ⟨f1, e⟩ := PO e k1
  try simp at f1
  refine SR ?_
  simp (maxSteps := 2000000) -implicitDefEqProofs
  refine EV.ret ?_
  simp only [KR1, KR2, KR3, KR4]
  subst e
  refine Fin.pure0 ?_
  first | (simp; done) | (simp <;> grind)
 try simp at k1
 obtain ⟨f1, e⟩ := NO e k1
 try simp at f1
 refine EV.skip ?_
 simp only [KN1, KN2, KN3]
 refine EV.seq (SR ?_)
 simp (maxSteps := 2000000) -implicitDefEqProofs
 obtain ⟨z4, e4, e⟩ := run_split e
 refine EV.nrm (fun v : { v : (Unit) × (Unit) // z4 = .go v.1 } => (fun (v4 : Unit) (g4 : Unit) => (⟨[J, J, J, J, J, J, J, J, J, J, J, J, J, J, J, J, J, J, J, J, J, J, J, J, J, J, J, J, J, J, J, J], []⟩ : St)) v.1.1 v.1.2) ?_ ?_
 ·skip
  refine EV.block ?_
  refine EV.loopB (fun x : { x : Nat // x ≤ p0.length ∧ eqTy_l4 p1 p2 (p0.drop x) x = z4 } => (fun (j4 : Nat) => (⟨[J, .ro 3 (p1.map tyC), .fn fid2 [], J, J, J, J, J, J, J, J, J, J, J, J, .ro 3 (p0.map tyC), .i .i64 (p0.length : Int), .i .i64 (j4 : Int), J, J, J, J, J, J, J, J, J, J, J, J, J, J], []⟩ : St)) x.1) (fun x => p0.length - x.1) ⟨0, Nat.zero_le _, e4⟩ ?_ ?_
  ·skip
   try dsimp only
   try dsimp only
   refine Sub.cutF 0 (by simp) ?_ ?_ <;> simp [List.range_succ, toIdx_range, passed]
  rintro ⟨j4, hi4, e4⟩
  simp only at hi4 e4 ⊢
  refine SR ?_
  simp (maxSteps := 2000000) -implicitDefEqProofs
  refine EV.seq ?_
  refine EV.room 15 (by rfl) (fun mj4 => ?_)
  simp at mj4
  refine EV.condT ?_
  simp -implicitDefEqProofs
  refine condT_intro (fun k2 => ?_) (fun k2 => ?_)
  ·try simp at k2
   have u2 : j4 < p0.length := by omega
   obtain ⟨x4, hx4⟩ : ∃ z, p0[j4] = z := ⟨_, rfl⟩
   have mx4 : x4 ∈ p0 := by rw [← hx4]; exact List.getElem_mem _
   rw [List.drop_eq_getElem_cons u2, hx4, eqTy_l4] at e4
   refine EV.skip ?_
   simp only [KN1, KN2, KN3]
   refine EV.seq (EV.block (SR ?_))
   simp (maxSteps := 2000000) -implicitDefEqProofs [k2, u2, hx4]
   refine EV.seq ?_
   obtain ⟨y6_2, gy6_2⟩ : ∃ z, (p1.getD j4 default) = z := ⟨_, rfl⟩
   replace e4 := bnd_on e4 gy6_2
   try dsimp only at e4
   have b3 : 0 ≤ (j4 : Int) ∧ (j4 : Int) < (p1.length : Int) := by omega
   have c3 : j4 < p1.length := by omega
   have hy6_2 : p1[j4] = y6_2 := by rw [← gy6_2, List.getD_eq_getElem?_getD, List.getElem?_eq_getElem c3]; rfl
   have my6_2 : y6_2 ∈ p1 := by rw [← hy6_2]; exact List.getElem_mem _
   refine RG ?_
   simp (maxSteps := 2000000) -implicitDefEqProofs [k2, u2, hx4, b3, c3, hy6_2]
   refine SR ?_
   simp (maxSteps := 2000000) -implicitDefEqProofs [k2, u2, hx4, b3, c3, hy6_2]
   refine callG_own [] rfl (H2 x4 y6_2 (by assumption)) ?_ ?_ ?_ ?_ ?_ ?_
   ·simp
   ·simp
   ·simp
   ·simp
   ·simp
   simp (maxSteps := 2000000) -implicitDefEqProofs [k2, u2, hx4, b3, c3, hy6_2, keys, callUpd, List.range_succ]
   refine EV.condT ?_
   simp -implicitDefEqProofs [k2, u2, hx4, b3, c3, hy6_2]
   refine condT_intro (fun k4 => ?_) (fun k4 => ?_)
   ·try simp at k4
    obtain ⟨f4, e4⟩ := PO e4 k4
    try simp at f4
    refine SR ?_
    simp (maxSteps := 2000000) -implicitDefEqProofs [k2, u2, hx4, b3, c3, hy6_2]
    refine EV.ret ?_
    simp only [KR1, KR2, KR3, KR4]
    replace e := run_back e e4
    subst e
    refine Fin.pure0 ?_
    first | (simp; done) | (simp <;> grind)
   try simp at k4
   obtain ⟨f4, e4⟩ := NO e4 k4
   try simp at f4
   refine EV.skip ?_
   simp only [KN1, KN2, KN3]
   refine RG ?_
   simp (maxSteps := 2000000) -implicitDefEqProofs [k2, u2, hx4, b3, c3, hy6_2]
   have w4 : IntKind.i64.wrap ((j4 : Int) + 1) = (j4 : Int) + 1 := wrap_in _ (by omega) (by omega)
   refine ⟨⟨j4 + 1, by omega, e4⟩, by dsimp only; omega, ?_⟩
   try dsimp only
   refine Sub.cutF 0 (by simp) ?_ ?_ <;> simp [List.range_succ, toIdx_range, passed, k2, u2, hx4, b3, c3, hy6_2, w4]
  try simp at k2
  have d2 : p0.drop j4 = [] := List.drop_eq_nil_of_le (by omega)
  rw [d2, eqTy_l4] at e4
  refine EV.exit ?_
  simp -implicitDefEqProofs
  refine ⟨⟨((), ()), e4.symm⟩, ?_⟩
  try dsimp only
  refine Sub.cutF 0 (by simp) ?_ ?_ <;> simp [List.range_succ, toIdx_range, passed]
 rintro ⟨⟨v4, g4⟩, e4⟩
 simp only [KN1, KN2, KN3, KN4]
 replace e := run_on e e4
 try dsimp only at e
 refine SR ?_
 simp (maxSteps := 2000000) -implicitDefEqProofs
 refine EV.ret ?_
 simp only [KR1, KR2, KR3, KR4]
 subst e
 refine Fin.pure0 ?_
 first | (simp; done) | (simp <;> grind)

def tSameTy_b (r_tSameTy : TyD → TyD → Bool) (p0 : TyD) (p1 : TyD) : Bool :=
 (((decide (p0.k = p1.k)) && (decide (p0.name = p1.name))) && (eqTy p0.l p1.l r_tSameTy))
theorem w_tSameTy_b (r_tSameTy : TyD → TyD → Bool) (p0 : TyD) (p1 : TyD)  (D : Nat) (H_tSameTy : ∀ (u0 : TyD) (u1 : TyD), SizeOf.sizeOf u0 < D → QC prog 48 [.agg [.i .i64 u0.k, .s u0.name, .ro 3 (u0.l.map tyC)], .agg [.i .i64 u1.k, .s u1.name, .ro 3 (u1.l.map tyC)]] [] (.b (r_tSameTy u0 u1)) []) (hD : SizeOf.sizeOf p0 ≤ D) : QC prog 48 [.agg [.i .i64 p0.k, .s p0.name, .ro 3 (p0.l.map tyC)], .agg [.i .i64 p1.k, .s p1.name, .ro 3 (p1.l.map tyC)]] [] (.b (tSameTy_b r_tSameTy p0 p1)) [] := by
 refine QC.of_body tabOK func48 rfl (by kernel_rfl) ?_
 simp only [f48]
 generalize e : tSameTy_b r_tSameTy p0 p1 = R
 unfold tSameTy_b at e
 refine SR ?_
 simp (maxSteps := 2000000) -implicitDefEqProofs
 refine EV.seq ?_
 refine EV.nrm (fun _ : Unit => (⟨[J, J, J, J, .b (((decide (p0.k = p1.k)) && (decide (p0.name = p1.name))) && (eqTy p0.l p1.l r_tSameTy)), J, J, J, J, J, J, J, J, J, J, J, J, J, J, J, J, J, J, J], []⟩ : St)) ?_ ?_
 ·skip
  by_cases k2 : p0.k = p1.k
  ·skip
   have kk2 := k2
   try simp at kk2
   by_cases k3 : p0.name = p1.name
   ·skip
    have kk3 := k3
    try simp at kk3
    have := sz_TyD_l p0
    refine RG ?_
    simp (maxSteps := 2000000) -implicitDefEqProofs +contextual [k2, kk2, k3, kk3]
    refine callG_own [] rfl (w_eqTy0 p0.l p1.l r_tSameTy 48 (fun u0 u1 h0 => H_tSameTy u0 u1 (by have := List.sizeOf_lt_of_mem h0; first | omega | (simp at *; omega)))) ?_ ?_ ?_ ?_ ?_ ?_
    ·simp
    ·simp
    ·simp
    ·simp
    ·simp
    simp (maxSteps := 2000000) -implicitDefEqProofs +contextual [k2, kk2, k3, kk3, keys, callUpd, List.range_succ]
    refine ⟨(), ?_⟩
    try dsimp only
    refine Sub.cutF 0 (by simp) ?_ ?_ <;> simp [List.range_succ, toIdx_range, passed, k2, kk2, k3, kk3]
   have kk3 := k3
   try simp at kk3
   refine RG ?_
   simp (maxSteps := 2000000) -implicitDefEqProofs +contextual [k2, kk2, k3, kk3]
   refine ⟨(), ?_⟩
   try dsimp only
   refine Sub.cutF 0 (by simp) ?_ ?_ <;> simp [List.range_succ, toIdx_range, passed, k2, kk2, k3, kk3]
  have kk2 := k2
  try simp at kk2
  refine RG ?_
  simp (maxSteps := 2000000) -implicitDefEqProofs +contextual [k2, kk2]
  refine ⟨(), ?_⟩
  try dsimp only
  refine Sub.cutF 0 (by simp) ?_ ?_ <;> simp [List.range_succ, toIdx_range, passed, k2, kk2]
 rintro _
 simp only [KN1, KN2, KN3, KN4]
 refine EV.ret ?_
 simp only [KR1, KR2, KR3, KR4]
 subst e
 refine Fin.pure0 ?_
 first | (simp; done) | (simp <;> grind)

def tSameTy_f : Nat → TyD → TyD → Bool
 | 0, _, _ => default
 | k + 1, p0, p1 => tSameTy_b (tSameTy_f k) p0 p1
def tSameTy (p0 : TyD) (p1 : TyD) : Bool := tSameTy_f (SizeOf.sizeOf p0 + 1) p0 p1
theorem w_tSameTy_f : ∀ k : Nat, (∀ (p0 : TyD) (p1 : TyD), SizeOf.sizeOf p0 < k → QC prog 48 [.agg [.i .i64 p0.k, .s p0.name, .ro 3 (p0.l.map tyC)], .agg [.i .i64 p1.k, .s p1.name, .ro 3 (p1.l.map tyC)]] [] (.b (tSameTy_f k p0 p1)) [])
 | 0 => by refine (fun _ _ h => absurd h (Nat.not_lt_zero _))
 | k + 1 => by refine (fun p0 p1 h => by rw [tSameTy_f]; exact w_tSameTy_b (tSameTy_f k) p0 p1 k (w_tSameTy_f k) (by omega))
theorem w_tSameTy (p0 : TyD) (p1 : TyD) : QC prog 48 [.agg [.i .i64 p0.k, .s p0.name, .ro 3 (p0.l.map tyC)], .agg [.i .i64 p1.k, .s p1.name, .ro 3 (p1.l.map tyC)]] [] (.b (tSameTy p0 p1)) [] := (w_tSameTy_f (SizeOf.sizeOf p0 + 1)) p0 p1 (Nat.lt_succ_self _)

def eqStep_l4 (p1 : List StepD) : List StepD → Nat → Ctl (Bool) (Unit)
 | [], _ => .go ()
 | x4 :: xs4, j4 => (bnd (p1.getD j4 default) fun (y6_6 : StepD) => (if ¬ (x4.field = y6_6.field) then .ret false else eqStep_l4 p1 xs4 (j4 + 1)))
def eqStep (p0 : List StepD) (p1 : List StepD) : Bool :=
 (if ¬ ((p0.length : Int) = (p1.length : Int)) then false else (Ctl.run (eqStep_l4 p1 p0 0) fun (v4 : Unit) => true))
theorem w_eqStep (p0 : List StepD) (p1 : List StepD)  : QC prog 176 [.ro 1 (p0.map stepC), .ro 1 (p1.map stepC)] [] (.b (eqStep p0 p1)) [] := by
 refine QC.of_body tabOK func176 rfl (by kernel_rfl) ?_
 simp only [f176]
 generalize e : eqStep p0 p1 = R
 unfold eqStep at e
 refine SR ?_
 simp (maxSteps := 2000000) -implicitDefEqProofs
 refine EV.seq (SR ?_)
 simp (maxSteps := 2000000) -implicitDefEqProofs
 refine EV.condT ?_
 simp -implicitDefEqProofs
 refine condT_intro (fun k1 => ?_) (fun k1 => ?_)
 ·try simp at k1
  obtain ⟨f1, e⟩ := PO e k1
  try simp at f1
  refine SR ?_
  simp (maxSteps := 2000000) -implicitDefEqProofs
  refine EV.ret ?_
  simp only [KR1, KR2, KR3, KR4]
  subst e
  refine Fin.pure0 ?_
  first | (simp; done) | (simp <;> grind)
 try simp at k1
 obtain ⟨f1, e⟩ := NO e k1
 try simp at f1
 refine EV.skip ?_
 simp only [KN1, KN2, KN3]
 refine EV.seq (SR ?_)
 simp (maxSteps := 2000000) -implicitDefEqProofs
 obtain ⟨z4, e4, e⟩ := run_split e
 refine EV.nrm (fun v : { v : (Unit) × (Unit) // z4 = .go v.1 } => (fun (v4 : Unit) (g4 : Unit) => (⟨[J, J, J, J, J, J, J, J, J, J, J, J, J, J, J, J, J, J, J, J, J, J, J, J, J, J], []⟩ : St)) v.1.1 v.1.2) ?_ ?_
 ·skip
  refine EV.block ?_
  refine EV.loopB (fun x : { x : Nat // x ≤ p0.length ∧ eqStep_l4 p1 (p0.drop x) x = z4 } => (fun (j4 : Nat) => (⟨[.ro 1 (p0.map stepC), .ro 1 (p1.map stepC), J, J, J, J, J, J, J, J, J, J, .i .i64 (p0.length : Int), .i .i64 (j4 : Int), J, J, J, J, J, J, J, J, J, J, J, J], []⟩ : St)) x.1) (fun x => p0.length - x.1) ⟨0, Nat.zero_le _, e4⟩ ?_ ?_
  ·skip
   try dsimp only
   try dsimp only
   refine Sub.cutF 0 (by simp) ?_ ?_ <;> simp [List.range_succ, toIdx_range, passed]
  rintro ⟨j4, hi4, e4⟩
  simp only at hi4 e4 ⊢
  refine SR ?_
  simp (maxSteps := 2000000) -implicitDefEqProofs
  refine EV.seq ?_
  refine EV.room 0 (by rfl) (fun mj4 => ?_)
  simp at mj4
  refine EV.condT ?_
  simp -implicitDefEqProofs
  refine condT_intro (fun k2 => ?_) (fun k2 => ?_)
  ·try simp at k2
   have u2 : j4 < p0.length := by omega
   obtain ⟨x4, hx4⟩ : ∃ z, p0[j4] = z := ⟨_, rfl⟩
   have mx4 : x4 ∈ p0 := by rw [← hx4]; exact List.getElem_mem _
   rw [List.drop_eq_getElem_cons u2, hx4, eqStep_l4] at e4
   refine EV.skip ?_
   simp only [KN1, KN2, KN3]
   refine EV.seq (EV.block (SR ?_))
   simp (maxSteps := 2000000) -implicitDefEqProofs [k2, u2, hx4]
   refine EV.seq ?_
   obtain ⟨y6_6, gy6_6⟩ : ∃ z, (p1.getD j4 default) = z := ⟨_, rfl⟩
   replace e4 := bnd_on e4 gy6_6
   try dsimp only at e4
   have b3 : 0 ≤ (j4 : Int) ∧ (j4 : Int) < (p1.length : Int) := by omega
   have c3 : j4 < p1.length := by omega
   have hy6_6 : p1[j4] = y6_6 := by rw [← gy6_6, List.getD_eq_getElem?_getD, List.getElem?_eq_getElem c3]; rfl
   have my6_6 : y6_6 ∈ p1 := by rw [← hy6_6]; exact List.getElem_mem _
   refine EV.drawG tabOK mixedOK ?_
   simp (maxSteps := 2000000) -implicitDefEqProofs [k2, u2, hx4, b3, c3, hy6_6]
   refine And.intro ?_ ?_
   ·first | decide +kernel | (simp -implicitDefEqProofs; decide +kernel) | (split <;> decide +kernel)
   try simp -implicitDefEqProofs
   refine EV.condT ?_
   simp -implicitDefEqProofs [k2, u2, hx4, b3, c3, hy6_6]
   refine condT_intro (fun k4 => ?_) (fun k4 => ?_)
   ·try simp at k4
    obtain ⟨f4, e4⟩ := PO e4 k4
    try simp at f4
    refine SR ?_
    simp (maxSteps := 2000000) -implicitDefEqProofs [k2, u2, hx4, b3, c3, hy6_6]
    refine EV.ret ?_
    simp only [KR1, KR2, KR3, KR4]
    replace e := run_back e e4
    subst e
    refine Fin.pure0 ?_
    first | (simp; done) | (simp <;> grind)
   try simp at k4
   obtain ⟨f4, e4⟩ := NO e4 k4
   try simp at f4
   refine EV.skip ?_
   simp only [KN1, KN2, KN3]
   refine RG ?_
   simp (maxSteps := 2000000) -implicitDefEqProofs [k2, u2, hx4, b3, c3, hy6_6]
   have w4 : IntKind.i64.wrap ((j4 : Int) + 1) = (j4 : Int) + 1 := wrap_in _ (by omega) (by omega)
   refine ⟨⟨j4 + 1, by omega, e4⟩, by dsimp only; omega, ?_⟩
   try dsimp only
   refine Sub.cutF 0 (by simp) ?_ ?_ <;> simp [List.range_succ, toIdx_range, passed, k2, u2, hx4, b3, c3, hy6_6, w4]
  try simp at k2
  have d2 : p0.drop j4 = [] := List.drop_eq_nil_of_le (by omega)
  rw [d2, eqStep_l4] at e4
  refine EV.exit ?_
  simp -implicitDefEqProofs
  refine ⟨⟨((), ()), e4.symm⟩, ?_⟩
  try dsimp only
  refine Sub.cutF 0 (by simp) ?_ ?_ <;> simp [List.range_succ, toIdx_range, passed]
 rintro ⟨⟨v4, g4⟩, e4⟩
 simp only [KN1, KN2, KN3, KN4]
 replace e := run_on e e4
 try dsimp only at e
 refine SR ?_
 simp (maxSteps := 2000000) -implicitDefEqProofs
 refine EV.ret ?_
 simp only [KR1, KR2, KR3, KR4]
 subst e
 refine Fin.pure0 ?_
 first | (simp; done) | (simp <;> grind)

def tSamePlace (p0 : PlaceD) (p1 : PlaceD) : Bool :=
 ((decide (p0.name = p1.name)) && (eqStep p0.path p1.path))
theorem w_tSamePlace (p0 : PlaceD) (p1 : PlaceD)  : QC prog 107 [.agg [.s p0.name, .ro 1 (p0.path.map stepC)], .agg [.s p1.name, .ro 1 (p1.path.map stepC)]] [] (.b (tSamePlace p0 p1)) [] := by
 refine QC.of_body tabOK func107 rfl (by kernel_rfl) ?_
 simp only [f107]
 generalize e : tSamePlace p0 p1 = R
 unfold tSamePlace at e
 refine SR ?_
 simp (maxSteps := 2000000) -implicitDefEqProofs
 refine EV.seq ?_
 refine EV.nrm (fun _ : Unit => (⟨[J, J, J, J, .b ((decide (p0.name = p1.name)) && (eqStep p0.path p1.path)), J, J, J, J, J, J, J, J, J, J, J, J], []⟩ : St)) ?_ ?_
 ·skip
  by_cases k2 : p0.name = p1.name
  ·skip
   have kk2 := k2
   try simp at kk2
   refine RG ?_
   simp (maxSteps := 2000000) -implicitDefEqProofs +contextual [k2, kk2]
   refine callG_fun (w_eqStep p0.path p1.path) ?_ ?_
   ·first | (simp; done) | (simp [k2, kk2]; done)
   simp (maxSteps := 2000000) -implicitDefEqProofs +contextual [k2, kk2]
   refine ⟨(), ?_⟩
   try dsimp only
   refine Sub.cutF 0 (by simp) ?_ ?_ <;> simp [List.range_succ, toIdx_range, passed, k2, kk2]
  have kk2 := k2
  try simp at kk2
  refine RG ?_
  simp (maxSteps := 2000000) -implicitDefEqProofs +contextual [k2, kk2]
  refine ⟨(), ?_⟩
  try dsimp only
  refine Sub.cutF 0 (by simp) ?_ ?_ <;> simp [List.range_succ, toIdx_range, passed, k2, kk2]
 rintro _
 simp only [KN1, KN2, KN3, KN4]
 refine EV.ret ?_
 simp only [KR1, KR2, KR3, KR4]
 subst e
 refine Fin.pure0 ?_
 first | (simp; done) | (simp <;> grind)

def tSameOper (p0 : OperD) (p1 : OperD) : Bool :=
 (((p0.num == p1.num) && (decide (p0.n = p1.n))) && (tSamePlace p0.p p1.p))
theorem w_tSameOper (p0 : OperD) (p1 : OperD)  : QC prog 109 [.agg [.b p0.num, .i .i64 p0.n, .s p0.p.name, .ro 1 (p0.p.path.map stepC)], .agg [.b p1.num, .i .i64 p1.n, .s p1.p.name, .ro 1 (p1.p.path.map stepC)]] [] (.b (tSameOper p0 p1)) [] := by
 refine QC.of_body tabOK func109 rfl (by kernel_rfl) ?_
 simp only [f109]
 generalize e : tSameOper p0 p1 = R
 unfold tSameOper at e
 refine SR ?_
 simp (maxSteps := 2000000) -implicitDefEqProofs
 refine EV.seq ?_
 refine EV.nrm (fun _ : Unit => (⟨[J, J, J, J, .b (((p0.num == p1.num) && (decide (p0.n = p1.n))) && (tSamePlace p0.p p1.p)), J, J, J, J, J, J, J, J, J, J, J, J, J, J, J, J, J, J, J], []⟩ : St)) ?_ ?_
 ·skip
  cases k2 : p0.num
  ·skip
   have kk2 := k2
   try simp at kk2
   cases k3 : p1.num
   ·skip
    have kk3 := k3
    try simp at kk3
    by_cases k4 : p0.n = p1.n
    ·skip
     have kk4 := k4
     try simp at kk4
     refine RG ?_
     simp (maxSteps := 2000000) -implicitDefEqProofs +contextual [k2, kk2, k3, kk3, k4, kk4]
     refine callG_fun (w_tSamePlace p0.p p1.p) ?_ ?_
     ·first | (simp; done) | (simp [k2, kk2, k3, kk3, k4, kk4]; done)
     simp (maxSteps := 2000000) -implicitDefEqProofs +contextual [k2, kk2, k3, kk3, k4, kk4]
     refine ⟨(), ?_⟩
     try dsimp only
     refine Sub.cutF 0 (by simp) ?_ ?_ <;> simp [List.range_succ, toIdx_range, passed, k2, kk2, k3, kk3, k4, kk4]
    have kk4 := k4
    try simp at kk4
    refine RG ?_
    simp (maxSteps := 2000000) -implicitDefEqProofs +contextual [k2, kk2, k3, kk3, k4, kk4]
    refine ⟨(), ?_⟩
    try dsimp only
    refine Sub.cutF 0 (by simp) ?_ ?_ <;> simp [List.range_succ, toIdx_range, passed, k2, kk2, k3, kk3, k4, kk4]
   have kk3 := k3
   try simp at kk3
   refine RG ?_
   simp (maxSteps := 2000000) -implicitDefEqProofs +contextual [k2, kk2, k3, kk3]
   refine ⟨(), ?_⟩
   try dsimp only
   refine Sub.cutF 0 (by simp) ?_ ?_ <;> simp [List.range_succ, toIdx_range, passed, k2, kk2, k3, kk3]
  have kk2 := k2
  try simp at kk2
  cases k5 : p1.num
  ·skip
   have kk5 := k5
   try simp at kk5
   refine RG ?_
   simp (maxSteps := 2000000) -implicitDefEqProofs +contextual [k2, kk2, k5, kk5]
   refine ⟨(), ?_⟩
   try dsimp only
   refine Sub.cutF 0 (by simp) ?_ ?_ <;> simp [List.range_succ, toIdx_range, passed, k2, kk2, k5, kk5]
  have kk5 := k5
  try simp at kk5
  by_cases k6 : p0.n = p1.n
  ·skip
   have kk6 := k6
   try simp at kk6
   refine RG ?_
   simp (maxSteps := 2000000) -implicitDefEqProofs +contextual [k2, kk2, k5, kk5, k6, kk6]
   refine callG_fun (w_tSamePlace p0.p p1.p) ?_ ?_
   ·first | (simp; done) | (simp [k2, kk2, k5, kk5, k6, kk6]; done)
   simp (maxSteps := 2000000) -implicitDefEqProofs +contextual [k2, kk2, k5, kk5, k6, kk6]
   refine ⟨(), ?_⟩
   try dsimp only
   refine Sub.cutF 0 (by simp) ?_ ?_ <;> simp [List.range_succ, toIdx_range, passed, k2, kk2, k5, kk5, k6, kk6]
  have kk6 := k6
  try simp at kk6
  refine RG ?_
  simp (maxSteps := 2000000) -implicitDefEqProofs +contextual [k2, kk2, k5, kk5, k6, kk6]
  refine ⟨(), ?_⟩
  try dsimp only
  refine Sub.cutF 0 (by simp) ?_ ?_ <;> simp [List.range_succ, toIdx_range, passed, k2, kk2, k5, kk5, k6, kk6]
 rintro _
 simp only [KN1, KN2, KN3, KN4]
 refine EV.ret ?_
 simp only [KR1, KR2, KR3, KR4]
 subst e
 refine Fin.pure0 ?_
 first | (simp; done) | (simp <;> grind)

def eqOper_l4 (p1 : List OperD) (p2 : OperD → OperD → Bool) : List OperD → Nat → Ctl (Bool) (Unit)
 | [], _ => .go ()
 | x4 :: xs4, j4 => (bnd (p1.getD j4 default) fun (y6_2 : OperD) => (if ¬ ((p2 x4 y6_2) = true) then .ret false else eqOper_l4 p1 p2 xs4 (j4 + 1)))
def eqOper (p0 : List OperD) (p1 : List OperD) (p2 : OperD → OperD → Bool) : Bool :=
 (if ¬ ((p0.length : Int) = (p1.length : Int)) then false else (Ctl.run (eqOper_l4 p1 p2 p0 0) fun (v4 : Unit) => true))
theorem w_eqOper0 (p0 : List OperD) (p1 : List OperD) (p2 : OperD → OperD → Bool)  (fid2 : FuncId) (H2 : ∀ (u0 : OperD) (u1 : OperD), u0 ∈ p0 → QC prog fid2 [.agg [.b u0.num, .i .i64 u0.n, .s u0.p.name, .ro 1 (u0.p.path.map stepC)], .agg [.b u1.num, .i .i64 u1.n, .s u1.p.name, .ro 1 (u1.p.path.map stepC)]] [] (.b (p2 u0 u1)) []) : QC prog 177 [.ro 4 (p0.map operC), .ro 4 (p1.map operC), .fn fid2 []] [] (.b (eqOper p0 p1 p2)) [] := by
 refine QC.of_body tabOK func177 rfl (by kernel_rfl) ?_
 simp only [f177]
 generalize e : eqOper p0 p1 p2 = R
 unfold eqOper at e
 refine SR ?_
 simp (maxSteps := 2000000) -implicitDefEqProofs
 refine EV.seq (SR ?_)
 simp (maxSteps := 2000000) -implicitDefEqProofs
 refine EV.condT ?_
 simp -implicitDefEqProofs
 refine condT_intro (fun k1 => ?_) (fun k1 => ?_)
 ·try simp at k1
  obtain ⟨f1, e⟩ := PO e k1
  try simp at f1
  refine SR ?_
  simp (maxSteps := 2000000) -implicitDefEqProofs
  refine EV.ret ?_
  simp only [KR1, KR2, KR3, KR4]
  subst e
  refine Fin.pure0 ?_
  first | (simp; done) | (simp <;> grind)
 try simp at k1
 obtain ⟨f1, e⟩ := NO e k1
 try simp at f1
 refine EV.skip ?_
 simp only [KN1, KN2, KN3]
 refine EV.seq (SR ?_)
 simp (maxSteps := 2000000) -implicitDefEqProofs
 obtain ⟨z4, e4, e⟩ := run_split e
 refine EV.nrm (fun v : { v : (Unit) × (Unit) // z4 = .go v.1 } => (fun (v4 : Unit) (g4 : Unit) => (⟨[J, J, J, J, J, J, J, J, J, J, J, J, J, J, J, J, J, J, J, J, J, J, J, J, J, J, J, J, J, J, J, J], []⟩ : St)) v.1.1 v.1.2) ?_ ?_
 ·skip
  refine EV.block ?_
  refine EV.loopB (fun x : { x : Nat // x ≤ p0.length ∧ eqOper_l4 p1 p2 (p0.drop x) x = z4 } => (fun (j4 : Nat) => (⟨[J, .ro 4 (p1.map operC), .fn fid2 [], J, J, J, J, J, J, J, J, J, J, J, J, .ro 4 (p0.map operC), .i .i64 (p0.length : Int), .i .i64 (j4 : Int), J, J, J, J, J, J, J, J, J, J, J, J, J, J], []⟩ : St)) x.1) (fun x => p0.length - x.1) ⟨0, Nat.zero_le _, e4⟩ ?_ ?_
  ·skip
   try dsimp only
   try dsimp only
   refine Sub.cutF 0 (by simp) ?_ ?_ <;> simp [List.range_succ, toIdx_range, passed]
  rintro ⟨j4, hi4, e4⟩
  simp only at hi4 e4 ⊢
  refine SR ?_
  simp (maxSteps := 2000000) -implicitDefEqProofs
  refine EV.seq ?_
  refine EV.room 15 (by rfl) (fun mj4 => ?_)
  simp at mj4
  refine EV.condT ?_
  simp -implicitDefEqProofs
  refine condT_intro (fun k2 => ?_) (fun k2 => ?_)
  ·try simp at k2
   have u2 : j4 < p0.length := by omega
   obtain ⟨x4, hx4⟩ : ∃ z, p0[j4] = z := ⟨_, rfl⟩
   have mx4 : x4 ∈ p0 := by rw [← hx4]; exact List.getElem_mem _
   rw [List.drop_eq_getElem_cons u2, hx4, eqOper_l4] at e4
   refine EV.skip ?_
   simp only [KN1, KN2, KN3]
   refine EV.seq (EV.block (SR ?_))
   simp (maxSteps := 2000000) -implicitDefEqProofs [k2, u2, hx4]
   refine EV.seq ?_
   obtain ⟨y6_2, gy6_2⟩ : ∃ z, (p1.getD j4 default) = z := ⟨_, rfl⟩
   replace e4 := bnd_on e4 gy6_2
   try dsimp only at e4
   have b3 : 0 ≤ (j4 : Int) ∧ (j4 : Int) < (p1.length : Int) := by omega
   have c3 : j4 < p1.length := by omega
   have hy6_2 : p1[j4] = y6_2 := by rw [← gy6_2, List.getD_eq_getElem?_getD, List.getElem?_eq_getElem c3]; rfl
   have my6_2 : y6_2 ∈ p1 := by rw [← hy6_2]; exact List.getElem_mem _
   refine RG ?_
   simp (maxSteps := 2000000) -implicitDefEqProofs [k2, u2, hx4, b3, c3, hy6_2]
   refine SR ?_
   simp (maxSteps := 2000000) -implicitDefEqProofs [k2, u2, hx4, b3, c3, hy6_2]
   refine callG_own [] rfl (H2 x4 y6_2 (by assumption)) ?_ ?_ ?_ ?_ ?_ ?_
   ·simp
   ·simp
   ·simp
   ·simp
   ·simp
   simp (maxSteps := 2000000) -implicitDefEqProofs [k2, u2, hx4, b3, c3, hy6_2, keys, callUpd, List.range_succ]
   refine EV.condT ?_
   simp -implicitDefEqProofs [k2, u2, hx4, b3, c3, hy6_2]
   refine condT_intro (fun k4 => ?_) (fun k4 => ?_)
   ·try simp at k4
    obtain ⟨f4, e4⟩ := PO e4 k4
    try simp at f4
    refine SR ?_
    simp (maxSteps := 2000000) -implicitDefEqProofs [k2, u2, hx4, b3, c3, hy6_2]
    refine EV.ret ?_
    simp only [KR1, KR2, KR3, KR4]
    replace e := run_back e e4
    subst e
    refine Fin.pure0 ?_
    first | (simp; done) | (simp <;> grind)
   try simp at k4
   obtain ⟨f4, e4⟩ := NO e4 k4
   try simp at f4
   refine EV.skip ?_
   simp only [KN1, KN2, KN3]
   refine RG ?_
   simp (maxSteps := 2000000) -implicitDefEqProofs [k2, u2, hx4, b3, c3, hy6_2]
   have w4 : IntKind.i64.wrap ((j4 : Int) + 1) = (j4 : Int) + 1 := wrap_in _ (by omega) (by omega)
   refine ⟨⟨j4 + 1, by omega, e4⟩, by dsimp only; omega, ?_⟩
   try dsimp only
   refine Sub.cutF 0 (by simp) ?_ ?_ <;> simp [List.range_succ, toIdx_range, passed, k2, u2, hx4, b3, c3, hy6_2, w4]
  try simp at k2
  have d2 : p0.drop j4 = [] := List.drop_eq_nil_of_le (by omega)
  rw [d2, eqOper_l4] at e4
  refine EV.exit ?_
  simp -implicitDefEqProofs
  refine ⟨⟨((), ()), e4.symm⟩, ?_⟩
  try dsimp only
  refine Sub.cutF 0 (by simp) ?_ ?_ <;> simp [List.range_succ, toIdx_range, passed]
 rintro ⟨⟨v4, g4⟩, e4⟩
 simp only [KN1, KN2, KN3, KN4]
 replace e := run_on e e4
 try dsimp only at e
 refine SR ?_
 simp (maxSteps := 2000000) -implicitDefEqProofs
 refine EV.ret ?_
 simp only [KR1, KR2, KR3, KR4]
 subst e
 refine Fin.pure0 ?_
 first | (simp; done) | (simp <;> grind)

def tSameRv (p0 : RvD) (p1 : RvD) : Bool :=
 (((((decide (p0.k = p1.k)) && (decide (p0.name = p1.name))) && (decide (p0.variant = p1.variant))) && (tSamePlace p0.p p1.p)) && (eqOper p0.ops p1.ops tSameOper))
theorem w_tSameRv (p0 : RvD) (p1 : RvD)  : QC prog 108 [.agg [.i .i64 p0.k, .ro 4 (p0.ops.map operC), .s p0.p.name, .ro 1 (p0.p.path.map stepC), .s p0.name, .s p0.variant], .agg [.i .i64 p1.k, .ro 4 (p1.ops.map operC), .s p1.p.name, .ro 1 (p1.p.path.map stepC), .s p1.name, .s p1.variant]] [] (.b (tSameRv p0 p1)) [] := by
 refine QC.of_body tabOK func108 rfl (by kernel_rfl) ?_
 simp only [f108]
 generalize e : tSameRv p0 p1 = R
 unfold tSameRv at e
 refine SR ?_
 simp (maxSteps := 2000000) -implicitDefEqProofs
 refine EV.seq ?_
 refine EV.nrm (fun _ : Unit => (⟨[J, J, J, J, .b (((((decide (p0.k = p1.k)) && (decide (p0.name = p1.name))) && (decide (p0.variant = p1.variant))) && (tSamePlace p0.p p1.p)) && (eqOper p0.ops p1.ops tSameOper)), J, J, J, J, J, J, J, J, J, J, J, J, J, J, J, J, J, J, J, J, J, J, J, J, J, J, J, J, J, J, J, J, J], []⟩ : St)) ?_ ?_
 ·skip
  by_cases k2 : p0.k = p1.k
  ·skip
   have kk2 := k2
   try simp at kk2
   by_cases k3 : p0.name = p1.name
   ·skip
    have kk3 := k3
    try simp at kk3
    by_cases k4 : p0.variant = p1.variant
    ·skip
     have kk4 := k4
     try simp at kk4
     cases k5 : (tSamePlace p0.p p1.p)
     ·skip
      have kk5 := k5
      try simp at kk5
      refine RG ?_
      simp (maxSteps := 2000000) -implicitDefEqProofs +contextual [k2, kk2, k3, kk3, k4, kk4, k5, kk5]
      refine callG_fun (w_tSamePlace p0.p p1.p) ?_ ?_
      ·first | (simp; done) | (simp [k2, kk2, k3, kk3, k4, kk4, k5, kk5]; done)
      simp (maxSteps := 2000000) -implicitDefEqProofs +contextual [k2, kk2, k3, kk3, k4, kk4, k5, kk5]
      refine ⟨(), ?_⟩
      try dsimp only
      refine Sub.cutF 0 (by simp) ?_ ?_ <;> simp [List.range_succ, toIdx_range, passed, k2, kk2, k3, kk3, k4, kk4, k5, kk5]
     have kk5 := k5
     try simp at kk5
     refine RG ?_
     simp (maxSteps := 2000000) -implicitDefEqProofs +contextual [k2, kk2, k3, kk3, k4, kk4, k5, kk5]
     refine callG_fun (w_tSamePlace p0.p p1.p) ?_ ?_
     ·first | (simp; done) | (simp [k2, kk2, k3, kk3, k4, kk4, k5, kk5]; done)
     simp (maxSteps := 2000000) -implicitDefEqProofs +contextual [k2, kk2, k3, kk3, k4, kk4, k5, kk5]
     refine callG_own [] rfl (w_eqOper0 p0.ops p1.ops tSameOper 109 (fun u0 u1 h0 => w_tSameOper  u0 u1)) ?_ ?_ ?_ ?_ ?_ ?_
     ·simp
     ·simp
     ·simp
     ·simp
     ·simp
     simp (maxSteps := 2000000) -implicitDefEqProofs +contextual [k2, kk2, k3, kk3, k4, kk4, k5, kk5, keys, callUpd, List.range_succ]
     refine ⟨(), ?_⟩
     try dsimp only
     refine Sub.cutF 0 (by simp) ?_ ?_ <;> simp [List.range_succ, toIdx_range, passed, k2, kk2, k3, kk3, k4, kk4, k5, kk5]
    have kk4 := k4
    try simp at kk4
    refine RG ?_
    simp (maxSteps := 2000000) -implicitDefEqProofs +contextual [k2, kk2, k3, kk3, k4, kk4]
    refine ⟨(), ?_⟩
    try dsimp only
    refine Sub.cutF 0 (by simp) ?_ ?_ <;> simp [List.range_succ, toIdx_range, passed, k2, kk2, k3, kk3, k4, kk4]
   have kk3 := k3
   try simp at kk3
   refine RG ?_
   simp (maxSteps := 2000000) -implicitDefEqProofs +contextual [k2, kk2, k3, kk3]
   refine ⟨(), ?_⟩
   try dsimp only
   refine Sub.cutF 0 (by simp) ?_ ?_ <;> simp [List.range_succ, toIdx_range, passed, k2, kk2, k3, kk3]
  have kk2 := k2
  try simp at kk2
  refine RG ?_
  simp (maxSteps := 2000000) -implicitDefEqProofs +contextual [k2, kk2]
  refine ⟨(), ?_⟩
  try dsimp only
  refine Sub.cutF 0 (by simp) ?_ ?_ <;> simp [List.range_succ, toIdx_range, passed, k2, kk2]
 ·skip
  rintro _
  simp only [KN1, KN2, KN3, KN4]
  refine EV.ret ?_
  simp only [KR1, KR2, KR3, KR4]
  subst e
  refine Fin.pure0 ?_
  first | (simp; done) | (simp <;> grind)
def eqStmt_l4 (p1 : List StmtD) (p2 : StmtD → StmtD → Bool) : List StmtD → Nat → Ctl (Bool) (Unit)
 | [], _ => .go ()
 | x4 :: xs4, j4 => (bnd (p1.getD j4 default) fun (y6_2 : StmtD) => (if ¬ ((p2 x4 y6_2) = true) then .ret false else eqStmt_l4 p1 p2 xs4 (j4 + 1)))
def eqStmt (p0 : List StmtD) (p1 : List StmtD) (p2 : StmtD → StmtD → Bool) : Bool :=
 (if ¬ ((p0.length : Int) = (p1.length : Int)) then false else (Ctl.run (eqStmt_l4 p1 p2 p0 0) fun (v4 : Unit) => true))
theorem w_eqStmt0 (p0 : List StmtD) (p1 : List StmtD) (p2 : StmtD → StmtD → Bool)  (fid2 : FuncId) (H2 : ∀ (u0 : StmtD) (u1 : StmtD), u0 ∈ p0 → QC prog fid2 [.agg [.i .i64 u0.k, .i .i64 u0.at_, .s u0.name, .i .i64 u0.ty.k, .s u0.ty.name, .ro 3 (u0.ty.l.map tyC), .s u0.p.name, .ro 1 (u0.p.path.map stepC), .i .i64 u0.rv.k, .ro 4 (u0.rv.ops.map operC), .s u0.rv.p.name, .ro 1 (u0.rv.p.path.map stepC), .s u0.rv.name, .s u0.rv.variant, .b u0.op.num, .i .i64 u0.op.n, .s u0.op.p.name, .ro 1 (u0.op.p.path.map stepC), .ro 21 (u0.then_.map stmtC), .ro 21 (u0.else_.map stmtC), .ro 3 (u0.arms.map armC)], .agg [.i .i64 u1.k, .i .i64 u1.at_, .s u1.name, .i .i64 u1.ty.k, .s u1.ty.name, .ro 3 (u1.ty.l.map tyC), .s u1.p.name, .ro 1 (u1.p.path.map stepC), .i .i64 u1.rv.k, .ro 4 (u1.rv.ops.map operC), .s u1.rv.p.name, .ro 1 (u1.rv.p.path.map stepC), .s u1.rv.name, .s u1.rv.variant, .b u1.op.num, .i .i64 u1.op.n, .s u1.op.p.name, .ro 1 (u1.op.p.path.map stepC), .ro 21 (u1.then_.map stmtC), .ro 21 (u1.else_.map stmtC), .ro 3 (u1.arms.map armC)]] [] (.b (p2 u0 u1)) []) : QC prog 52 [.ro 21 (p0.map stmtC), .ro 21 (p1.map stmtC), .fn fid2 []] [] (.b (eqStmt p0 p1 p2)) [] := by
 refine QC.of_body tabOK func52 rfl (by kernel_rfl) ?_
 simp only [f52]
 generalize e : eqStmt p0 p1 p2 = R
 unfold eqStmt at e
 refine SR ?_
 simp (maxSteps := 2000000) -implicitDefEqProofs
 refine EV.seq (SR ?_)
 simp (maxSteps := 2000000) -implicitDefEqProofs
 refine EV.condT ?_
 simp -implicitDefEqProofs
 refine condT_intro (fun k1 => ?_) (fun k1 => ?_)
 ·try simp at k1
  obtain ⟨f1, e⟩ := PO e k1
  try simp at f1
  refine SR ?_
  simp (maxSteps := 2000000) -implicitDefEqProofs
  refine EV.ret ?_
  simp only [KR1, KR2, KR3, KR4]
  subst e
  refine Fin.pure0 ?_
  first | (simp; done) | (simp <;> grind)
 try simp at k1
 obtain ⟨f1, e⟩ := NO e k1
 try simp at f1
 refine EV.skip ?_
 simp only [KN1, KN2, KN3]
 refine EV.seq (SR ?_)
 simp (maxSteps := 2000000) -implicitDefEqProofs
 obtain ⟨z4, e4, e⟩ := run_split e
 refine EV.nrm (fun v : { v : (Unit) × (Unit) // z4 = .go v.1 } => (fun (v4 : Unit) (g4 : Unit) => (⟨[J, J, J, J, J, J, J, J, J, J, J, J, J, J, J, J, J, J, J, J, J, J, J, J, J, J, J, J, J, J, J, J], []⟩ : St)) v.1.1 v.1.2) ?_ ?_
 ·skip
  refine EV.block ?_
  refine EV.loopB (fun x : { x : Nat // x ≤ p0.length ∧ eqStmt_l4 p1 p2 (p0.drop x) x = z4 } => (fun (j4 : Nat) => (⟨[J, .ro 21 (p1.map stmtC), .fn fid2 [], J, J, J, J, J, J, J, J, J, J, J, J, .ro 21 (p0.map stmtC), .i .i64 (p0.length : Int), .i .i64 (j4 : Int), J, J, J, J, J, J, J, J, J, J, J, J, J, J], []⟩ : St)) x.1) (fun x => p0.length - x.1) ⟨0, Nat.zero_le _, e4⟩ ?_ ?_
  ·skip
   try dsimp only
   try dsimp only
   refine Sub.cutF 0 (by simp) ?_ ?_ <;> simp [List.range_succ, toIdx_range, passed]
  rintro ⟨j4, hi4, e4⟩
  simp only at hi4 e4 ⊢
  refine SR ?_
  simp (maxSteps := 2000000) -implicitDefEqProofs
  refine EV.seq ?_
  refine EV.room 15 (by rfl) (fun mj4 => ?_)
  simp at mj4
  refine EV.condT ?_
  simp -implicitDefEqProofs
  refine condT_intro (fun k2 => ?_) (fun k2 => ?_)
  ·try simp at k2
   have u2 : j4 < p0.length := by omega
   obtain ⟨x4, hx4⟩ : ∃ z, p0[j4] = z := ⟨_, rfl⟩
   have mx4 : x4 ∈ p0 := by rw [← hx4]; exact List.getElem_mem _
   rw [List.drop_eq_getElem_cons u2, hx4, eqStmt_l4] at e4
   refine EV.skip ?_
   simp only [KN1, KN2, KN3]
   refine EV.seq (EV.block (SR ?_))
   simp (maxSteps := 2000000) -implicitDefEqProofs [k2, u2, hx4]
   refine EV.seq ?_
   obtain ⟨y6_2, gy6_2⟩ : ∃ z, (p1.getD j4 default) = z := ⟨_, rfl⟩
   replace e4 := bnd_on e4 gy6_2
   try dsimp only at e4
   have b3 : 0 ≤ (j4 : Int) ∧ (j4 : Int) < (p1.length : Int) := by omega
   have c3 : j4 < p1.length := by omega
   have hy6_2 : p1[j4] = y6_2 := by rw [← gy6_2, List.getD_eq_getElem?_getD, List.getElem?_eq_getElem c3]; rfl
   have my6_2 : y6_2 ∈ p1 := by rw [← hy6_2]; exact List.getElem_mem _
   refine RG ?_
   simp (maxSteps := 2000000) -implicitDefEqProofs [k2, u2, hx4, b3, c3, hy6_2]
   refine SR ?_
   simp (maxSteps := 2000000) -implicitDefEqProofs [k2, u2, hx4, b3, c3, hy6_2]
   refine callG_own [] rfl (H2 x4 y6_2 (by assumption)) ?_ ?_ ?_ ?_ ?_ ?_
   ·simp
   ·simp
   ·simp
   ·simp
   ·simp
   simp (maxSteps := 2000000) -implicitDefEqProofs [k2, u2, hx4, b3, c3, hy6_2, keys, callUpd, List.range_succ]
   refine EV.condT ?_
   simp -implicitDefEqProofs [k2, u2, hx4, b3, c3, hy6_2]
   refine condT_intro (fun k4 => ?_) (fun k4 => ?_)
   ·try simp at k4
    obtain ⟨f4, e4⟩ := PO e4 k4
    try simp at f4
    refine SR ?_
    simp (maxSteps := 2000000) -implicitDefEqProofs [k2, u2, hx4, b3, c3, hy6_2]
    refine EV.ret ?_
    simp only [KR1, KR2, KR3, KR4]
    replace e := run_back e e4
    subst e
    refine Fin.pure0 ?_
    first | (simp; done) | (simp <;> grind)
   try simp at k4
   obtain ⟨f4, e4⟩ := NO e4 k4
   try simp at f4
   refine EV.skip ?_
   simp only [KN1, KN2, KN3]
   refine RG ?_
   simp (maxSteps := 2000000) -implicitDefEqProofs [k2, u2, hx4, b3, c3, hy6_2]
   have w4 : IntKind.i64.wrap ((j4 : Int) + 1) = (j4 : Int) + 1 := wrap_in _ (by omega) (by omega)
   refine ⟨⟨j4 + 1, by omega, e4⟩, by dsimp only; omega, ?_⟩
   try dsimp only
   refine Sub.cutF 0 (by simp) ?_ ?_ <;> simp [List.range_succ, toIdx_range, passed, k2, u2, hx4, b3, c3, hy6_2, w4]
  try simp at k2
  have d2 : p0.drop j4 = [] := List.drop_eq_nil_of_le (by omega)
  rw [d2, eqStmt_l4] at e4
  refine EV.exit ?_
  simp -implicitDefEqProofs
  refine ⟨⟨((), ()), e4.symm⟩, ?_⟩
  try dsimp only
  refine Sub.cutF 0 (by simp) ?_ ?_ <;> simp [List.range_succ, toIdx_range, passed]
 rintro ⟨⟨v4, g4⟩, e4⟩
 simp only [KN1, KN2, KN3, KN4]
 replace e := run_on e e4
 try dsimp only at e
 refine SR ?_
 simp (maxSteps := 2000000) -implicitDefEqProofs
 refine EV.ret ?_
 simp only [KR1, KR2, KR3, KR4]
 subst e
 refine Fin.pure0 ?_
 first | (simp; done) | (simp <;> grind)

def eqArm_l4 (p1 : List ArmD) (p2 : ArmD → ArmD → Bool) : List ArmD → Nat → Ctl (Bool) (Unit)
 | [], _ => .go ()
 | x4 :: xs4, j4 => (bnd (p1.getD j4 default) fun (y6_2 : ArmD) => (if ¬ ((p2 x4 y6_2) = true) then .ret false else eqArm_l4 p1 p2 xs4 (j4 + 1)))
def eqArm (p0 : List ArmD) (p1 : List ArmD) (p2 : ArmD → ArmD → Bool) : Bool :=
 (if ¬ ((p0.length : Int) = (p1.length : Int)) then false else (Ctl.run (eqArm_l4 p1 p2 p0 0) fun (v4 : Unit) => true))
theorem w_eqArm0 (p0 : List ArmD) (p1 : List ArmD) (p2 : ArmD → ArmD → Bool)  (fid2 : FuncId) (H2 : ∀ (u0 : ArmD) (u1 : ArmD), u0 ∈ p0 → QC prog fid2 [.agg [.s u0.variant, .s u0.bind, .ro 21 (u0.body.map stmtC)], .agg [.s u1.variant, .s u1.bind, .ro 21 (u1.body.map stmtC)]] [] (.b (p2 u0 u1)) []) : QC prog 110 [.ro 3 (p0.map armC), .ro 3 (p1.map armC), .fn fid2 []] [] (.b (eqArm p0 p1 p2)) [] := by
 refine QC.of_body tabOK func110 rfl (by kernel_rfl) ?_
 simp only [f110]
 generalize e : eqArm p0 p1 p2 = R
 unfold eqArm at e
 refine SR ?_
 simp (maxSteps := 2000000) -implicitDefEqProofs
 refine EV.seq (SR ?_)
 simp (maxSteps := 2000000) -implicitDefEqProofs
 refine EV.condT ?_
 simp -implicitDefEqProofs
 refine condT_intro (fun k1 => ?_) (fun k1 => ?_)
 ·try simp at k1
  obtain ⟨f1, e⟩ := PO e k1
  try simp at f1
  refine SR ?_
  simp (maxSteps := 2000000) -implicitDefEqProofs
  refine EV.ret ?_
  simp only [KR1, KR2, KR3, KR4]
  subst e
  refine Fin.pure0 ?_
  first | (simp; done) | (simp <;> grind)
 try simp at k1
 obtain ⟨f1, e⟩ := NO e k1
 try simp at f1
 refine EV.skip ?_
 simp only [KN1, KN2, KN3]
 refine EV.seq (SR ?_)
 simp (maxSteps := 2000000) -implicitDefEqProofs
 obtain ⟨z4, e4, e⟩ := run_split e
 refine EV.nrm (fun v : { v : (Unit) × (Unit) // z4 = .go v.1 } => (fun (v4 : Unit) (g4 : Unit) => (⟨[J, J, J, J, J, J, J, J, J, J, J, J, J, J, J, J, J, J, J, J, J, J, J, J, J, J, J, J, J, J, J, J], []⟩ : St)) v.1.1 v.1.2) ?_ ?_
 ·skip
  refine EV.block ?_
  refine EV.loopB (fun x : { x : Nat // x ≤ p0.length ∧ eqArm_l4 p1 p2 (p0.drop x) x = z4 } => (fun (j4 : Nat) => (⟨[J, .ro 3 (p1.map armC), .fn fid2 [], J, J, J, J, J, J, J, J, J, J, J, J, .ro 3 (p0.map armC), .i .i64 (p0.length : Int), .i .i64 (j4 : Int), J, J, J, J, J, J, J, J, J, J, J, J, J, J], []⟩ : St)) x.1) (fun x => p0.length - x.1) ⟨0, Nat.zero_le _, e4⟩ ?_ ?_
  ·skip
   try dsimp only
   try dsimp only
   refine Sub.cutF 0 (by simp) ?_ ?_ <;> simp [List.range_succ, toIdx_range, passed]
  rintro ⟨j4, hi4, e4⟩
  simp only at hi4 e4 ⊢
  refine SR ?_
  simp (maxSteps := 2000000) -implicitDefEqProofs
  refine EV.seq ?_
  refine EV.room 15 (by rfl) (fun mj4 => ?_)
  simp at mj4
  refine EV.condT ?_
  simp -implicitDefEqProofs
  refine condT_intro (fun k2 => ?_) (fun k2 => ?_)
  ·try simp at k2
   have u2 : j4 < p0.length := by omega
   obtain ⟨x4, hx4⟩ : ∃ z, p0[j4] = z := ⟨_, rfl⟩
   have mx4 : x4 ∈ p0 := by rw [← hx4]; exact List.getElem_mem _
   rw [List.drop_eq_getElem_cons u2, hx4, eqArm_l4] at e4
   refine EV.skip ?_
   simp only [KN1, KN2, KN3]
   refine EV.seq (EV.block (SR ?_))
   simp (maxSteps := 2000000) -implicitDefEqProofs [k2, u2, hx4]
   refine EV.seq ?_
   obtain ⟨y6_2, gy6_2⟩ : ∃ z, (p1.getD j4 default) = z := ⟨_, rfl⟩
   replace e4 := bnd_on e4 gy6_2
   try dsimp only at e4
   have b3 : 0 ≤ (j4 : Int) ∧ (j4 : Int) < (p1.length : Int) := by omega
   have c3 : j4 < p1.length := by omega
   have hy6_2 : p1[j4] = y6_2 := by rw [← gy6_2, List.getD_eq_getElem?_getD, List.getElem?_eq_getElem c3]; rfl
   have my6_2 : y6_2 ∈ p1 := by rw [← hy6_2]; exact List.getElem_mem _
   refine RG ?_
   simp (maxSteps := 2000000) -implicitDefEqProofs [k2, u2, hx4, b3, c3, hy6_2]
   refine SR ?_
   simp (maxSteps := 2000000) -implicitDefEqProofs [k2, u2, hx4, b3, c3, hy6_2]
   refine callG_own [] rfl (H2 x4 y6_2 (by assumption)) ?_ ?_ ?_ ?_ ?_ ?_
   ·simp
   ·simp
   ·simp
   ·simp
   ·simp
   simp (maxSteps := 2000000) -implicitDefEqProofs [k2, u2, hx4, b3, c3, hy6_2, keys, callUpd, List.range_succ]
   refine EV.condT ?_
   simp -implicitDefEqProofs [k2, u2, hx4, b3, c3, hy6_2]
   refine condT_intro (fun k4 => ?_) (fun k4 => ?_)
   ·try simp at k4
    obtain ⟨f4, e4⟩ := PO e4 k4
    try simp at f4
    refine SR ?_
    simp (maxSteps := 2000000) -implicitDefEqProofs [k2, u2, hx4, b3, c3, hy6_2]
    refine EV.ret ?_
    simp only [KR1, KR2, KR3, KR4]
    replace e := run_back e e4
    subst e
    refine Fin.pure0 ?_
    first | (simp; done) | (simp <;> grind)
   try simp at k4
   obtain ⟨f4, e4⟩ := NO e4 k4
   try simp at f4
   refine EV.skip ?_
   simp only [KN1, KN2, KN3]
   refine RG ?_
   simp (maxSteps := 2000000) -implicitDefEqProofs [k2, u2, hx4, b3, c3, hy6_2]
   have w4 : IntKind.i64.wrap ((j4 : Int) + 1) = (j4 : Int) + 1 := wrap_in _ (by omega) (by omega)
   refine ⟨⟨j4 + 1, by omega, e4⟩, by dsimp only; omega, ?_⟩
   try dsimp only
   refine Sub.cutF 0 (by simp) ?_ ?_ <;> simp [List.range_succ, toIdx_range, passed, k2, u2, hx4, b3, c3, hy6_2, w4]
  try simp at k2
  have d2 : p0.drop j4 = [] := List.drop_eq_nil_of_le (by omega)
  rw [d2, eqArm_l4] at e4
  refine EV.exit ?_
  simp -implicitDefEqProofs
  refine ⟨⟨((), ()), e4.symm⟩, ?_⟩
  try dsimp only
  refine Sub.cutF 0 (by simp) ?_ ?_ <;> simp [List.range_succ, toIdx_range, passed]
 rintro ⟨⟨v4, g4⟩, e4⟩
 simp only [KN1, KN2, KN3, KN4]
 replace e := run_on e e4
 try dsimp only at e
 refine SR ?_
 simp (maxSteps := 2000000) -implicitDefEqProofs
 refine EV.ret ?_
 simp only [KR1, KR2, KR3, KR4]
 subst e
 refine Fin.pure0 ?_
 first | (simp; done) | (simp <;> grind)

def tSameStmt_b (r_tSameStmt : StmtD → StmtD → Bool) (r_tSameArm : ArmD → ArmD → Bool) (p0 : StmtD) (p1 : StmtD) : Bool :=
 (if (((((¬ (p0.k = p1.k)) ∨ (¬ (p0.name = p1.name))) ∨ (¬ ((tSameTy p0.ty p1.ty) = true))) ∨ (¬ ((tSamePlace p0.p p1.p) = true))) ∨ (¬ ((tSameRv p0.rv p1.rv) = true))) ∨ (¬ ((tSameOper p0.op p1.op) = true)) then false else (((eqStmt p0.then_ p1.then_ r_tSameStmt) && (eqStmt p0.else_ p1.else_ r_tSameStmt)) && (eqArm p0.arms p1.arms r_tSameArm)))
theorem w_tSameStmt_b (r_tSameStmt : StmtD → StmtD → Bool) (r_tSameArm : ArmD → ArmD → Bool) (p0 : StmtD) (p1 : StmtD)  (D : Nat) (H_tSameStmt : ∀ (u0 : StmtD) (u1 : StmtD), SizeOf.sizeOf u0 < D → QC prog 53 [.agg [.i .i64 u0.k, .i .i64 u0.at_, .s u0.name, .i .i64 u0.ty.k, .s u0.ty.name, .ro 3 (u0.ty.l.map tyC), .s u0.p.name, .ro 1 (u0.p.path.map stepC), .i .i64 u0.rv.k, .ro 4 (u0.rv.ops.map operC), .s u0.rv.p.name, .ro 1 (u0.rv.p.path.map stepC), .s u0.rv.name, .s u0.rv.variant, .b u0.op.num, .i .i64 u0.op.n, .s u0.op.p.name, .ro 1 (u0.op.p.path.map stepC), .ro 21 (u0.then_.map stmtC), .ro 21 (u0.else_.map stmtC), .ro 3 (u0.arms.map armC)], .agg [.i .i64 u1.k, .i .i64 u1.at_, .s u1.name, .i .i64 u1.ty.k, .s u1.ty.name, .ro 3 (u1.ty.l.map tyC), .s u1.p.name, .ro 1 (u1.p.path.map stepC), .i .i64 u1.rv.k, .ro 4 (u1.rv.ops.map operC), .s u1.rv.p.name, .ro 1 (u1.rv.p.path.map stepC), .s u1.rv.name, .s u1.rv.variant, .b u1.op.num, .i .i64 u1.op.n, .s u1.op.p.name, .ro 1 (u1.op.p.path.map stepC), .ro 21 (u1.then_.map stmtC), .ro 21 (u1.else_.map stmtC), .ro 3 (u1.arms.map armC)]] [] (.b (r_tSameStmt u0 u1)) []) (H_tSameArm : ∀ (u0 : ArmD) (u1 : ArmD), SizeOf.sizeOf u0 < D → QC prog 111 [.agg [.s u0.variant, .s u0.bind, .ro 21 (u0.body.map stmtC)], .agg [.s u1.variant, .s u1.bind, .ro 21 (u1.body.map stmtC)]] [] (.b (r_tSameArm u0 u1)) []) (hD : SizeOf.sizeOf p0 ≤ D) : QC prog 53 [.agg [.i .i64 p0.k, .i .i64 p0.at_, .s p0.name, .i .i64 p0.ty.k, .s p0.ty.name, .ro 3 (p0.ty.l.map tyC), .s p0.p.name, .ro 1 (p0.p.path.map stepC), .i .i64 p0.rv.k, .ro 4 (p0.rv.ops.map operC), .s p0.rv.p.name, .ro 1 (p0.rv.p.path.map stepC), .s p0.rv.name, .s p0.rv.variant, .b p0.op.num, .i .i64 p0.op.n, .s p0.op.p.name, .ro 1 (p0.op.p.path.map stepC), .ro 21 (p0.then_.map stmtC), .ro 21 (p0.else_.map stmtC), .ro 3 (p0.arms.map armC)], .agg [.i .i64 p1.k, .i .i64 p1.at_, .s p1.name, .i .i64 p1.ty.k, .s p1.ty.name, .ro 3 (p1.ty.l.map tyC), .s p1.p.name, .ro 1 (p1.p.path.map stepC), .i .i64 p1.rv.k, .ro 4 (p1.rv.ops.map operC), .s p1.rv.p.name, .ro 1 (p1.rv.p.path.map stepC), .s p1.rv.name, .s p1.rv.variant, .b p1.op.num, .i .i64 p1.op.n, .s p1.op.p.name, .ro 1 (p1.op.p.path.map stepC), .ro 21 (p1.then_.map stmtC), .ro 21 (p1.else_.map stmtC), .ro 3 (p1.arms.map armC)]] [] (.b (tSameStmt_b r_tSameStmt r_tSameArm p0 p1)) [] := by
 refine QC.of_body tabOK func53 rfl (by kernel_rfl) ?_
 simp only [f53]
 generalize e : tSameStmt_b r_tSameStmt r_tSameArm p0 p1 = R
 unfold tSameStmt_b at e
 refine SR ?_
 simp (maxSteps := 2000000) -implicitDefEqProofs
 refine EV.seq (EV.seq ?_)
 refine EV.nrm (fun _ : Unit => (⟨[J, J, .ptr 0 0 0 0, .ptr 1 0 0 0, J, J, J, J, J, J, J, J, J, J, J, J, J, J, J, J, J, J, J, J, J, J, J, J, J, J, J, J, J, J, J, J, J, J, J, J, J, J, J, J, J, J, J, J, .b ((((((!(decide (p0.k = p1.k))) || (!(decide (p0.name = p1.name)))) || (!(tSameTy p0.ty p1.ty))) || (!(tSamePlace p0.p p1.p))) || (!(tSameRv p0.rv p1.rv))) || (!(tSameOper p0.op p1.op))), J, J, J, J, J, J, J, J, J, J, J, J, J, J, J, J, J, J, J], [.arr 0 21 [[.i .i64 p0.k, .i .i64 p0.at_, .s p0.name, .i .i64 p0.ty.k, .s p0.ty.name, .ro 3 (p0.ty.l.map tyC), .s p0.p.name, .ro 1 (p0.p.path.map stepC), .i .i64 p0.rv.k, .ro 4 (p0.rv.ops.map operC), .s p0.rv.p.name, .ro 1 (p0.rv.p.path.map stepC), .s p0.rv.name, .s p0.rv.variant, .b p0.op.num, .i .i64 p0.op.n, .s p0.op.p.name, .ro 1 (p0.op.p.path.map stepC), .ro 21 (p0.then_.map stmtC), .ro 21 (p0.else_.map stmtC), .ro 3 (p0.arms.map armC)]], .arr 0 21 [[.i .i64 p1.k, .i .i64 p1.at_, .s p1.name, .i .i64 p1.ty.k, .s p1.ty.name, .ro 3 (p1.ty.l.map tyC), .s p1.p.name, .ro 1 (p1.p.path.map stepC), .i .i64 p1.rv.k, .ro 4 (p1.rv.ops.map operC), .s p1.rv.p.name, .ro 1 (p1.rv.p.path.map stepC), .s p1.rv.name, .s p1.rv.variant, .b p1.op.num, .i .i64 p1.op.n, .s p1.op.p.name, .ro 1 (p1.op.p.path.map stepC), .ro 21 (p1.then_.map stmtC), .ro 21 (p1.else_.map stmtC), .ro 3 (p1.arms.map armC)]]]⟩ : St)) ?_ ?_
 ·skip
  by_cases k2 : p0.k = p1.k
  ·skip
   have kk2 := k2
   try simp at kk2
   by_cases k3 : p0.name = p1.name
   ·skip
    have kk3 := k3
    try simp at kk3
    cases k4 : (tSameTy p0.ty p1.ty)
    ·skip
     have kk4 := k4
     try simp at kk4
     refine RG ?_
     simp (maxSteps := 2000000) -implicitDefEqProofs +contextual [k2, kk2, k3, kk3, k4, kk4]
     refine callG_fun (w_tSameTy p0.ty p1.ty) ?_ ?_
     ·first | (simp; done) | (simp [k2, kk2, k3, kk3, k4, kk4]; done)
     simp (maxSteps := 2000000) -implicitDefEqProofs +contextual [k2, kk2, k3, kk3, k4, kk4]
     refine ⟨(), ?_⟩
     try dsimp only
     refine Sub.cutF 2 (by simp) ?_ ?_ <;> simp [List.range_succ, toIdx_range, passed, k2, kk2, k3, kk3, k4, kk4]
    have kk4 := k4
    try simp at kk4
    cases k5 : (tSamePlace p0.p p1.p)
    ·skip
     have kk5 := k5
     try simp at kk5
     refine RG ?_
     simp (maxSteps := 2000000) -implicitDefEqProofs +contextual [k2, kk2, k3, kk3, k4, kk4, k5, kk5]
     refine callG_fun (w_tSameTy p0.ty p1.ty) ?_ ?_
     ·first | (simp; done) | (simp [k2, kk2, k3, kk3, k4, kk4, k5, kk5]; done)
     simp (maxSteps := 2000000) -implicitDefEqProofs +contextual [k2, kk2, k3, kk3, k4, kk4, k5, kk5]
     refine callG_fun (w_tSamePlace p0.p p1.p) ?_ ?_
     ·first | (simp; done) | (simp [k2, kk2, k3, kk3, k4, kk4, k5, kk5]; done)
     simp (maxSteps := 2000000) -implicitDefEqProofs +contextual [k2, kk2, k3, kk3, k4, kk4, k5, kk5]
     refine ⟨(), ?_⟩
     try dsimp only
     refine Sub.cutF 2 (by simp) ?_ ?_ <;> simp [List.range_succ, toIdx_range, passed, k2, kk2, k3, kk3, k4, kk4, k5, kk5]
    have kk5 := k5
    try simp at kk5
    cases k6 : (tSameRv p0.rv p1.rv)
    ·skip
     have kk6 := k6
     try simp at kk6
     refine RG ?_
     simp (maxSteps := 2000000) -implicitDefEqProofs +contextual [k2, kk2, k3, kk3, k4, kk4, k5, kk5, k6, kk6]
     refine callG_fun (w_tSameTy p0.ty p1.ty) ?_ ?_
     ·first | (simp; done) | (simp [k2, kk2, k3, kk3, k4, kk4, k5, kk5, k6, kk6]; done)
     simp (maxSteps := 2000000) -implicitDefEqProofs +contextual [k2, kk2, k3, kk3, k4, kk4, k5, kk5, k6, kk6]
     refine callG_fun (w_tSamePlace p0.p p1.p) ?_ ?_
     ·first | (simp; done) | (simp [k2, kk2, k3, kk3, k4, kk4, k5, kk5, k6, kk6]; done)
     simp (maxSteps := 2000000) -implicitDefEqProofs +contextual [k2, kk2, k3, kk3, k4, kk4, k5, kk5, k6, kk6]
     refine callG_fun (w_tSameRv p0.rv p1.rv) ?_ ?_
     ·first | (simp; done) | (simp [k2, kk2, k3, kk3, k4, kk4, k5, kk5, k6, kk6]; done)
     simp (maxSteps := 2000000) -implicitDefEqProofs +contextual [k2, kk2, k3, kk3, k4, kk4, k5, kk5, k6, kk6]
     refine ⟨(), ?_⟩
     try dsimp only
     refine Sub.cutF 2 (by simp) ?_ ?_ <;> simp [List.range_succ, toIdx_range, passed, k2, kk2, k3, kk3, k4, kk4, k5, kk5, k6, kk6]
    have kk6 := k6
    try simp at kk6
    refine RG ?_
    simp (maxSteps := 2000000) -implicitDefEqProofs +contextual [k2, kk2, k3, kk3, k4, kk4, k5, kk5, k6, kk6]
    refine callG_fun (w_tSameTy p0.ty p1.ty) ?_ ?_
    ·first | (simp; done) | (simp [k2, kk2, k3, kk3, k4, kk4, k5, kk5, k6, kk6]; done)
    simp (maxSteps := 2000000) -implicitDefEqProofs +contextual [k2, kk2, k3, kk3, k4, kk4, k5, kk5, k6, kk6]
    refine callG_fun (w_tSamePlace p0.p p1.p) ?_ ?_
    ·first | (simp; done) | (simp [k2, kk2, k3, kk3, k4, kk4, k5, kk5, k6, kk6]; done)
    simp (maxSteps := 2000000) -implicitDefEqProofs +contextual [k2, kk2, k3, kk3, k4, kk4, k5, kk5, k6, kk6]
    refine callG_fun (w_tSameRv p0.rv p1.rv) ?_ ?_
    ·first | (simp; done) | (simp [k2, kk2, k3, kk3, k4, kk4, k5, kk5, k6, kk6]; done)
    simp (maxSteps := 2000000) -implicitDefEqProofs +contextual [k2, kk2, k3, kk3, k4, kk4, k5, kk5, k6, kk6]
    refine callG_fun (w_tSameOper p0.op p1.op) ?_ ?_
    ·first | (simp; done) | (simp [k2, kk2, k3, kk3, k4, kk4, k5, kk5, k6, kk6]; done)
    simp (maxSteps := 2000000) -implicitDefEqProofs +contextual [k2, kk2, k3, kk3, k4, kk4, k5, kk5, k6, kk6]
    refine ⟨(), ?_⟩
    try dsimp only
    refine Sub.cutF 2 (by simp) ?_ ?_ <;> simp [List.range_succ, toIdx_range, passed, k2, kk2, k3, kk3, k4, kk4, k5, kk5, k6, kk6]
   have kk3 := k3
   try simp at kk3
   refine RG ?_
   simp (maxSteps := 2000000) -implicitDefEqProofs +contextual [k2, kk2, k3, kk3]
   refine ⟨(), ?_⟩
   try dsimp only
   refine Sub.cutF 2 (by simp) ?_ ?_ <;> simp [List.range_succ, toIdx_range, passed, k2, kk2, k3, kk3]
  have kk2 := k2
  try simp at kk2
  refine RG ?_
  simp (maxSteps := 2000000) -implicitDefEqProofs +contextual [k2, kk2]
  refine ⟨(), ?_⟩
  try dsimp only
  refine Sub.cutF 2 (by simp) ?_ ?_ <;> simp [List.range_succ, toIdx_range, passed, k2, kk2]
 rintro _
 simp only [KN1, KN2, KN3, KN4]
 refine EV.condT ?_
 simp -implicitDefEqProofs
 refine condT_intro (fun k7 => ?_) (fun k7 => ?_)
 ·try simp at k7
  obtain ⟨f7, e⟩ := PO e k7
  try simp at f7
  refine SR ?_
  simp (maxSteps := 2000000) -implicitDefEqProofs
  refine EV.ret ?_
  simp only [KR1, KR2, KR3, KR4]
  subst e
  refine Fin.pure0 ?_
  first | (simp; done) | (simp <;> grind)
 try simp at k7
 obtain ⟨f7, e⟩ := NO e k7
 try simp at f7
 refine EV.skip ?_
 simp only [KN1, KN2, KN3]
 refine EV.seq ?_
 refine EV.nrm (fun _ : Unit => (⟨[J, J, J, J, .b (((eqStmt p0.then_ p1.then_ r_tSameStmt) && (eqStmt p0.else_ p1.else_ r_tSameStmt)) && (eqArm p0.arms p1.arms r_tSameArm)), J, J, J, J, J, J, J, J, J, J, J, J, J, J, J, J, J, J, J, J, J, J, J, J, J, J, J, J, J, J, J, J, J, J, J, J, J, J, J, J, J, J, J, J, J, J, J, J, J, J, J, J, J, J, J, J, J, J, J, J, J, J, J], []⟩ : St)) ?_ ?_
 ·skip
  cases k9 : (eqStmt p0.then_ p1.then_ r_tSameStmt)
  ·skip
   have kk9 := k9
   try simp at kk9
   have := sz_StmtD_then_ p0
   refine RG ?_
   simp (maxSteps := 2000000) -implicitDefEqProofs +contextual [k9, kk9]
   refine callG_own [] rfl (w_eqStmt0 p0.then_ p1.then_ r_tSameStmt 53 (fun u0 u1 h0 => H_tSameStmt u0 u1 (by have := List.sizeOf_lt_of_mem h0; first | omega | (simp at *; omega)))) ?_ ?_ ?_ ?_ ?_ ?_
   ·simp
   ·simp
   ·simp
   ·simp
   ·simp
   simp (maxSteps := 2000000) -implicitDefEqProofs +contextual [k9, kk9, keys, callUpd, List.range_succ]
   refine ⟨(), ?_⟩
   try dsimp only
   refine Sub.cutF 0 (by simp) ?_ ?_ <;> simp [List.range_succ, toIdx_range, passed, k9, kk9]
  have kk9 := k9
  try simp at kk9
  cases k10 : (eqStmt p0.else_ p1.else_ r_tSameStmt)
  ·skip
   have kk10 := k10
   try simp at kk10
   have := sz_StmtD_then_ p0
   have := sz_StmtD_else_ p0
   refine RG ?_
   simp (maxSteps := 2000000) -implicitDefEqProofs +contextual [k9, kk9, k10, kk10]
   refine callG_own [] rfl (w_eqStmt0 p0.then_ p1.then_ r_tSameStmt 53 (fun u0 u1 h0 => H_tSameStmt u0 u1 (by have := List.sizeOf_lt_of_mem h0; first | omega | (simp at *; omega)))) ?_ ?_ ?_ ?_ ?_ ?_
   ·simp
   ·simp
   ·simp
   ·simp
   ·simp
   simp (maxSteps := 2000000) -implicitDefEqProofs +contextual [k9, kk9, k10, kk10, keys, callUpd, List.range_succ]
   refine callG_own [] rfl (w_eqStmt0 p0.else_ p1.else_ r_tSameStmt 53 (fun u0 u1 h0 => H_tSameStmt u0 u1 (by have := List.sizeOf_lt_of_mem h0; first | omega | (simp at *; omega)))) ?_ ?_ ?_ ?_ ?_ ?_
   ·simp
   ·simp
   ·simp
   ·simp
   ·simp
   simp (maxSteps := 2000000) -implicitDefEqProofs +contextual [k9, kk9, k10, kk10, keys, callUpd, List.range_succ]
   refine ⟨(), ?_⟩
   try dsimp only
   refine Sub.cutF 0 (by simp) ?_ ?_ <;> simp [List.range_succ, toIdx_range, passed, k9, kk9, k10, kk10]
  have kk10 := k10
  try simp at kk10
  have := sz_StmtD_then_ p0
  have := sz_StmtD_else_ p0
  have := sz_StmtD_arms p0
  refine RG ?_
  simp (maxSteps := 2000000) -implicitDefEqProofs +contextual [k9, kk9, k10, kk10]
  refine callG_own [] rfl (w_eqStmt0 p0.then_ p1.then_ r_tSameStmt 53 (fun u0 u1 h0 => H_tSameStmt u0 u1 (by have := List.sizeOf_lt_of_mem h0; first | omega | (simp at *; omega)))) ?_ ?_ ?_ ?_ ?_ ?_
  ·simp
  ·simp
  ·simp
  ·simp
  ·simp
  simp (maxSteps := 2000000) -implicitDefEqProofs +contextual [k9, kk9, k10, kk10, keys, callUpd, List.range_succ]
  refine callG_own [] rfl (w_eqStmt0 p0.else_ p1.else_ r_tSameStmt 53 (fun u0 u1 h0 => H_tSameStmt u0 u1 (by have := List.sizeOf_lt_of_mem h0; first | omega | (simp at *; omega)))) ?_ ?_ ?_ ?_ ?_ ?_
  ·simp
  ·simp
  ·simp
  ·simp
  ·simp
  simp (maxSteps := 2000000) -implicitDefEqProofs +contextual [k9, kk9, k10, kk10, keys, callUpd, List.range_succ]
  refine callG_own [] rfl (w_eqArm0 p0.arms p1.arms r_tSameArm 111 (fun u0 u1 h0 => H_tSameArm u0 u1 (by have := List.sizeOf_lt_of_mem h0; first | omega | (simp at *; omega)))) ?_ ?_ ?_ ?_ ?_ ?_
  ·simp
  ·simp
  ·simp
  ·simp
  ·simp
  simp (maxSteps := 2000000) -implicitDefEqProofs +contextual [k9, kk9, k10, kk10, keys, callUpd, List.range_succ]
  refine ⟨(), ?_⟩
  try dsimp only
  refine Sub.cutF 0 (by simp) ?_ ?_ <;> simp [List.range_succ, toIdx_range, passed, k9, kk9, k10, kk10]
 rintro _
 simp only [KN1, KN2, KN3, KN4]
 refine EV.ret ?_
 simp only [KR1, KR2, KR3, KR4]
 subst e
 refine Fin.pure0 ?_
 first | (simp; done) | (simp <;> grind)

def tSameArm_b (r_tSameStmt : StmtD → StmtD → Bool) (r_tSameArm : ArmD → ArmD → Bool) (p0 : ArmD) (p1 : ArmD) : Bool :=
 (((decide (p0.variant = p1.variant)) && (decide (p0.bind = p1.bind))) && (eqStmt p0.body p1.body r_tSameStmt))
theorem w_tSameArm_b (r_tSameStmt : StmtD → StmtD → Bool) (r_tSameArm : ArmD → ArmD → Bool) (p0 : ArmD) (p1 : ArmD)  (D : Nat) (H_tSameStmt : ∀ (u0 : StmtD) (u1 : StmtD), SizeOf.sizeOf u0 < D → QC prog 53 [.agg [.i .i64 u0.k, .i .i64 u0.at_, .s u0.name, .i .i64 u0.ty.k, .s u0.ty.name, .ro 3 (u0.ty.l.map tyC), .s u0.p.name, .ro 1 (u0.p.path.map stepC), .i .i64 u0.rv.k, .ro 4 (u0.rv.ops.map operC), .s u0.rv.p.name, .ro 1 (u0.rv.p.path.map stepC), .s u0.rv.name, .s u0.rv.variant, .b u0.op.num, .i .i64 u0.op.n, .s u0.op.p.name, .ro 1 (u0.op.p.path.map stepC), .ro 21 (u0.then_.map stmtC), .ro 21 (u0.else_.map stmtC), .ro 3 (u0.arms.map armC)], .agg [.i .i64 u1.k, .i .i64 u1.at_, .s u1.name, .i .i64 u1.ty.k, .s u1.ty.name, .ro 3 (u1.ty.l.map tyC), .s u1.p.name, .ro 1 (u1.p.path.map stepC), .i .i64 u1.rv.k, .ro 4 (u1.rv.ops.map operC), .s u1.rv.p.name, .ro 1 (u1.rv.p.path.map stepC), .s u1.rv.name, .s u1.rv.variant, .b u1.op.num, .i .i64 u1.op.n, .s u1.op.p.name, .ro 1 (u1.op.p.path.map stepC), .ro 21 (u1.then_.map stmtC), .ro 21 (u1.else_.map stmtC), .ro 3 (u1.arms.map armC)]] [] (.b (r_tSameStmt u0 u1)) []) (H_tSameArm : ∀ (u0 : ArmD) (u1 : ArmD), SizeOf.sizeOf u0 < D → QC prog 111 [.agg [.s u0.variant, .s u0.bind, .ro 21 (u0.body.map stmtC)], .agg [.s u1.variant, .s u1.bind, .ro 21 (u1.body.map stmtC)]] [] (.b (r_tSameArm u0 u1)) []) (hD : SizeOf.sizeOf p0 ≤ D) : QC prog 111 [.agg [.s p0.variant, .s p0.bind, .ro 21 (p0.body.map stmtC)], .agg [.s p1.variant, .s p1.bind, .ro 21 (p1.body.map stmtC)]] [] (.b (tSameArm_b r_tSameStmt r_tSameArm p0 p1)) [] := by
 refine QC.of_body tabOK func111 rfl (by kernel_rfl) ?_
 simp only [f111]
 generalize e : tSameArm_b r_tSameStmt r_tSameArm p0 p1 = R
 unfold tSameArm_b at e
 refine SR ?_
 simp (maxSteps := 2000000) -implicitDefEqProofs
 refine EV.seq ?_
 refine EV.nrm (fun _ : Unit => (⟨[J, J, J, J, .b (((decide (p0.variant = p1.variant)) && (decide (p0.bind = p1.bind))) && (eqStmt p0.body p1.body r_tSameStmt)), J, J, J, J, J, J, J, J, J, J, J, J, J, J, J, J, J, J, J], []⟩ : St)) ?_ ?_
 ·skip
  by_cases k2 : p0.variant = p1.variant
  ·skip
   have kk2 := k2
   try simp at kk2
   by_cases k3 : p0.bind = p1.bind
   ·skip
    have kk3 := k3
    try simp at kk3
    have := sz_ArmD_body p0
    refine RG ?_
    simp (maxSteps := 2000000) -implicitDefEqProofs +contextual [k2, kk2, k3, kk3]
    refine callG_own [] rfl (w_eqStmt0 p0.body p1.body r_tSameStmt 53 (fun u0 u1 h0 => H_tSameStmt u0 u1 (by have := List.sizeOf_lt_of_mem h0; first | omega | (simp at *; omega)))) ?_ ?_ ?_ ?_ ?_ ?_
    ·simp
    ·simp
    ·simp
    ·simp
    ·simp
    simp (maxSteps := 2000000) -implicitDefEqProofs +contextual [k2, kk2, k3, kk3, keys, callUpd, List.range_succ]
    refine ⟨(), ?_⟩
    try dsimp only
    refine Sub.cutF 0 (by simp) ?_ ?_ <;> simp [List.range_succ, toIdx_range, passed, k2, kk2, k3, kk3]
   have kk3 := k3
   try simp at kk3
   refine RG ?_
   simp (maxSteps := 2000000) -implicitDefEqProofs +contextual [k2, kk2, k3, kk3]
   refine ⟨(), ?_⟩
   try dsimp only
   refine Sub.cutF 0 (by simp) ?_ ?_ <;> simp [List.range_succ, toIdx_range, passed, k2, kk2, k3, kk3]
  have kk2 := k2
  try simp at kk2
  refine RG ?_
  simp (maxSteps := 2000000) -implicitDefEqProofs +contextual [k2, kk2]
  refine ⟨(), ?_⟩
  try dsimp only
  refine Sub.cutF 0 (by simp) ?_ ?_ <;> simp [List.range_succ, toIdx_range, passed, k2, kk2]
 rintro _
 simp only [KN1, KN2, KN3, KN4]
 refine EV.ret ?_
 simp only [KR1, KR2, KR3, KR4]
 subst e
 refine Fin.pure0 ?_
 first | (simp; done) | (simp <;> grind)

mutual
def tSameStmt_f : Nat → StmtD → StmtD → Bool
 | 0, _, _ => default
 | k + 1, p0, p1 => tSameStmt_b (tSameStmt_f k) (tSameArm_f k) p0 p1
def tSameArm_f : Nat → ArmD → ArmD → Bool
 | 0, _, _ => default
 | k + 1, p0, p1 => tSameArm_b (tSameStmt_f k) (tSameArm_f k) p0 p1
end
def tSameStmt (p0 : StmtD) (p1 : StmtD) : Bool := tSameStmt_f (SizeOf.sizeOf p0 + 1) p0 p1
theorem w_tSameStmt_tSameArm_f : ∀ k : Nat, (∀ (p0 : StmtD) (p1 : StmtD), SizeOf.sizeOf p0 < k → QC prog 53 [.agg [.i .i64 p0.k, .i .i64 p0.at_, .s p0.name, .i .i64 p0.ty.k, .s p0.ty.name, .ro 3 (p0.ty.l.map tyC), .s p0.p.name, .ro 1 (p0.p.path.map stepC), .i .i64 p0.rv.k, .ro 4 (p0.rv.ops.map operC), .s p0.rv.p.name, .ro 1 (p0.rv.p.path.map stepC), .s p0.rv.name, .s p0.rv.variant, .b p0.op.num, .i .i64 p0.op.n, .s p0.op.p.name, .ro 1 (p0.op.p.path.map stepC), .ro 21 (p0.then_.map stmtC), .ro 21 (p0.else_.map stmtC), .ro 3 (p0.arms.map armC)], .agg [.i .i64 p1.k, .i .i64 p1.at_, .s p1.name, .i .i64 p1.ty.k, .s p1.ty.name, .ro 3 (p1.ty.l.map tyC), .s p1.p.name, .ro 1 (p1.p.path.map stepC), .i .i64 p1.rv.k, .ro 4 (p1.rv.ops.map operC), .s p1.rv.p.name, .ro 1 (p1.rv.p.path.map stepC), .s p1.rv.name, .s p1.rv.variant, .b p1.op.num, .i .i64 p1.op.n, .s p1.op.p.name, .ro 1 (p1.op.p.path.map stepC), .ro 21 (p1.then_.map stmtC), .ro 21 (p1.else_.map stmtC), .ro 3 (p1.arms.map armC)]] [] (.b (tSameStmt_f k p0 p1)) []) ∧ (∀ (p0 : ArmD) (p1 : ArmD), SizeOf.sizeOf p0 < k → QC prog 111 [.agg [.s p0.variant, .s p0.bind, .ro 21 (p0.body.map stmtC)], .agg [.s p1.variant, .s p1.bind, .ro 21 (p1.body.map stmtC)]] [] (.b (tSameArm_f k p0 p1)) [])
 | 0 => by refine ⟨(fun _ _ h => absurd h (Nat.not_lt_zero _)), (fun _ _ h => absurd h (Nat.not_lt_zero _))⟩
 | k + 1 => by refine ⟨(fun p0 p1 h => by rw [tSameStmt_f]; exact w_tSameStmt_b (tSameStmt_f k) (tSameArm_f k) p0 p1 k (w_tSameStmt_tSameArm_f k).1 (w_tSameStmt_tSameArm_f k).2 (by omega)), (fun p0 p1 h => by rw [tSameArm_f]; exact w_tSameArm_b (tSameStmt_f k) (tSameArm_f k) p0 p1 k (w_tSameStmt_tSameArm_f k).1 (w_tSameStmt_tSameArm_f k).2 (by omega))⟩
theorem w_tSameStmt (p0 : StmtD) (p1 : StmtD) : QC prog 53 [.agg [.i .i64 p0.k, .i .i64 p0.at_, .s p0.name, .i .i64 p0.ty.k, .s p0.ty.name, .ro 3 (p0.ty.l.map tyC), .s p0.p.name, .ro 1 (p0.p.path.map stepC), .i .i64 p0.rv.k, .ro 4 (p0.rv.ops.map operC), .s p0.rv.p.name, .ro 1 (p0.rv.p.path.map stepC), .s p0.rv.name, .s p0.rv.variant, .b p0.op.num, .i .i64 p0.op.n, .s p0.op.p.name, .ro 1 (p0.op.p.path.map stepC), .ro 21 (p0.then_.map stmtC), .ro 21 (p0.else_.map stmtC), .ro 3 (p0.arms.map armC)], .agg [.i .i64 p1.k, .i .i64 p1.at_, .s p1.name, .i .i64 p1.ty.k, .s p1.ty.name, .ro 3 (p1.ty.l.map tyC), .s p1.p.name, .ro 1 (p1.p.path.map stepC), .i .i64 p1.rv.k, .ro 4 (p1.rv.ops.map operC), .s p1.rv.p.name, .ro 1 (p1.rv.p.path.map stepC), .s p1.rv.name, .s p1.rv.variant, .b p1.op.num, .i .i64 p1.op.n, .s p1.op.p.name, .ro 1 (p1.op.p.path.map stepC), .ro 21 (p1.then_.map stmtC), .ro 21 (p1.else_.map stmtC), .ro 3 (p1.arms.map armC)]] [] (.b (tSameStmt p0 p1)) [] := (w_tSameStmt_tSameArm_f (SizeOf.sizeOf p0 + 1)).1 p0 p1 (Nat.lt_succ_self _)
end
end Go.Proofs.Tryz
end
