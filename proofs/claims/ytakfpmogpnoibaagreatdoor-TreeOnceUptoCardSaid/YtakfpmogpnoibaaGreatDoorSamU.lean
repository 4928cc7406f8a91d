/- The program's answer whether two sources are the same. -/
import Derived.Test.YtakfpmogpnoibaaGreatDoorSamT
import Derived.Test.YtakfpmogpnoibaaGreatDoorPlaN
set_option linter.unusedVariables false
set_option linter.unusedSimpArgs false
set_option linter.constructorNameAsVariable false
section
namespace Go.Proofs.Tryz
open Go Go.AM
attribute [local simp] wpG_op wpG_nil contG_some wpG_guard guardG_v guardG_o guardG_tup gval pureOp stepG_if isPick pickG_pick pickB_b pickOK isCall step_move step_assign step_alloc step_box boxV_some step_load step_store step_binOp step_unOp step_fieldAddr faV step_indexAddr ixA_slc ixA_arr step_extract extV_tup step_nilCheck ncV_ptr ncV_rp ncV_fn ncV_mp step_build buildV step_buildSlice bsV step_index ixV_arr ixV_str step_append apB step_makeSlice msV_i step_makeFunc over step_len step_makeMap mmV step_mapUpdate step_insert muA_map muB_mp step_lookup lkA_map lkB_mp step_slice slcV_s slcV_sl slcV_ro cutB_some slObV_arr bound_none bound_some bndV_i lenB_str lenB_ro lenB_sl lenB_nil lenB_z ld_ptr ld_rp offV_ptr offV_rp idxV_ro idxV_sl unV_not unV_neg binV_int binV_str binV_eqlb binV_neqb intOp strOp St.put updL setOb St.ev toV St.lk cellsOf AM.valOf TK.agg stv fillV places TI.zero condT_true condT_false finS resL resSlot packV ren ren1 ren0 Value.cells builtinV appendV elemsOf keepT room_of wrap_in toIdx passed Function.comp_def take_len_map lenV touchOf hid tab1 tab2 tab3 tab4 tab5 tab6 tab7 tab8 tab9 tab20 tab22 tab23 tab24 tab26 tab32 tab33 tab35 tab36 tab37 tab39 tab41 tab42 tab43 tab45 tab46 tab47 tab49 tab50 tab52 tab74 tab79 tab83 tab86 tab87 tab89 tab92 tab100 tab101 tab102 tab103 tab105 tab107 tab108 tab113 tab114 tab116 tab117 tab118 tab122 tab123 tab125 tab127 tab130 tab132 tab136 tab173 tab175 tab178 tab179 tab180 tab182 tab189 tab215 tab219 tab220 tab224 tab225 tab241 tab244 tab247 tab253 tab261 tab262 tab265 tab266 armC_eq blockC_eq bodyC_eq enumC_eq fieldC_eq fnC_eq inC_eq localC_eq mirBodyC_eq operC_eq placeC_eq rvC_eq sourceC_eq spotC_eq stepC_eq stmtC_eq structC_eq tmC_eq tyC_eq useC_eq valueC_eq variantC_eq binV_eqls binV_neqs cutL_nil cutL_junk cutL_cons ren_arr ren_gone ren_unborn ren_var ren_row step_convert cvV_i cvV_sl cvV_s cvK_slc cvE_u8 bytesOf bor1 bor2 bor3 bor4
set_option linter.unusedSimpArgs false
set_option linter.unusedVariables false
set_option maxRecDepth 10000
set_option maxHeartbeats 40000000
noncomputable section

def tSameField (p0 : FieldD) (p1 : FieldD) : Bool :=
 ((decide (p0.name = p1.name)) && (tSameTy p0.ty p1.ty))
theorem w_tSameField (p0 : FieldD) (p1 : FieldD)  : QC prog 46 [.agg [.s p0.name, .i .i64 p0.ty.k, .s p0.ty.name, .ro 3 (p0.ty.l.map tyC)], .agg [.s p1.name, .i .i64 p1.ty.k, .s p1.ty.name, .ro 3 (p1.ty.l.map tyC)]] [] (.b (tSameField p0 p1)) [] := by
 refine QC.of_body tabOK func46 rfl (by kernel_rfl) ?_
 simp only [f46]
 generalize e : tSameField p0 p1 = R
 unfold tSameField at e
 refine SR ?_
 simp (maxSteps := 2000000) -implicitDefEqProofs
 refine EV.seq ?_
 refine EV.nrm (fun _ : Unit => (⟨[J, J, J, J, .b ((decide (p0.name = p1.name)) && (tSameTy p0.ty p1.ty)), J, J, J, J, J, J, J, J, J, J, J, J], []⟩ : St)) ?_ ?_
 ·skip
  by_cases k2 : p0.name = p1.name
  ·skip
   have kk2 := k2
   try simp at kk2
   refine RG ?_
   simp (maxSteps := 2000000) -implicitDefEqProofs +contextual [k2, kk2]
   refine callG_fun (w_tSameTy p0.ty p1.ty) ?_ ?_
   ·first | (simp; done) | (simp [k2, kk2]; done)
   simp (maxSteps := 2000000) -implicitDefEqProofs +contextual [k2, kk2]
   refine ⟨(), ?_⟩
   try dsimp only
   refine Sub.cutF 0 (by simp) ?_ ?_ <;> simp [List.range_succ, toIdx_range, passed, k2, kk2]
  have kk2 := k2
  try simp at kk2
  refine RG ?_
  simp (maxSteps := 2000000) -implicitDefEqProofs +contextual [k2, kk2]
  refine ⟨(), ?_⟩
  try dsimp only
  refine Sub.cutF 0 (by simp) ?_ ?_ <;> simp [List.range_succ, toIdx_range, passed, k2, kk2]
 rintro _
 simp only [KN1, KN2, KN3, KN4]
 refine EV.ret ?_
 simp only [KR1, KR2, KR3, KR4]
 subst e
 refine Fin.pure0 ?_
 first | (simp; done) | (simp <;> grind)

def eqField_l4 (p1 : List FieldD) (p2 : FieldD → FieldD → Bool) : List FieldD → Nat → Ctl (Bool) (Unit)
 | [], _ => .go ()
 | x4 :: xs4, j4 => (bnd (p1.getD j4 default) fun (y6_2 : FieldD) => (if ¬ ((p2 x4 y6_2) = true) then .ret false else eqField_l4 p1 p2 xs4 (j4 + 1)))
def eqField (p0 : List FieldD) (p1 : List FieldD) (p2 : FieldD → FieldD → Bool) : Bool :=
 (if ¬ ((p0.length : Int) = (p1.length : Int)) then false else (Ctl.run (eqField_l4 p1 p2 p0 0) fun (v4 : Unit) => true))
theorem w_eqField0 (p0 : List FieldD) (p1 : List FieldD) (p2 : FieldD → FieldD → Bool)  (fid2 : FuncId) (H2 : ∀ (u0 : FieldD) (u1 : FieldD), u0 ∈ p0 → QC prog fid2 [.agg [.s u0.name, .i .i64 u0.ty.k, .s u0.ty.name, .ro 3 (u0.ty.l.map tyC)], .agg [.s u1.name, .i .i64 u1.ty.k, .s u1.ty.name, .ro 3 (u1.ty.l.map tyC)]] [] (.b (p2 u0 u1)) []) : QC prog 45 [.ro 4 (p0.map fieldC), .ro 4 (p1.map fieldC), .fn fid2 []] [] (.b (eqField p0 p1 p2)) [] := by
 refine QC.of_body tabOK func45 rfl (by kernel_rfl) ?_
 simp only [f45]
 generalize e : eqField p0 p1 p2 = R
 unfold eqField at e
 refine SR ?_
 simp (maxSteps := 2000000) -implicitDefEqProofs
 refine EV.seq (SR ?_)
 simp (maxSteps := 2000000) -implicitDefEqProofs
 refine EV.condT ?_
 simp -implicitDefEqProofs
 refine condT_intro (fun k1 => ?_) (fun k1 => ?_)
 ·try simp at k1
  obtain ⟨f1, e⟩ := PO e k1
  try simp at f1
  refine SR ?_
  simp (maxSteps := 2000000) -implicitDefEqProofs
  refine EV.ret ?_
  simp only [KR1, KR2, KR3, KR4]
  subst e
  refine Fin.pure0 ?_
  first | (simp; done) | (simp <;> grind)
 try simp at k1
 obtain ⟨f1, e⟩ := NO e k1
 try simp at f1
 refine EV.skip ?_
 simp only [KN1, KN2, KN3]
 refine EV.seq (SR ?_)
 simp (maxSteps := 2000000) -implicitDefEqProofs
 obtain ⟨z4, e4, e⟩ := run_split e
 refine EV.nrm (fun v : { v : (Unit) × (Unit) // z4 = .go v.1 } => (fun (v4 : Unit) (g4 : Unit) => (⟨[J, J, J, J, J, J, J, J, J, J, J, J, J, J, J, J, J, J, J, J, J, J, J, J, J, J, J, J, J, J, J, J], []⟩ : St)) v.1.1 v.1.2) ?_ ?_
 ·skip
  refine EV.block ?_
  refine EV.loopB (fun x : { x : Nat // x ≤ p0.length ∧ eqField_l4 p1 p2 (p0.drop x) x = z4 } => (fun (j4 : Nat) => (⟨[J, .ro 4 (p1.map fieldC), .fn fid2 [], J, J, J, J, J, J, J, J, J, J, J, J, .ro 4 (p0.map fieldC), .i .i64 (p0.length : Int), .i .i64 (j4 : Int), J, J, J, J, J, J, J, J, J, J, J, J, J, J], []⟩ : St)) x.1) (fun x => p0.length - x.1) ⟨0, Nat.zero_le _, e4⟩ ?_ ?_
  ·skip
   try dsimp only
   try dsimp only
   refine Sub.cutF 0 (by simp) ?_ ?_ <;> simp [List.range_succ, toIdx_range, passed]
  rintro ⟨j4, hi4, e4⟩
  simp only at hi4 e4 ⊢
  refine SR ?_
  simp (maxSteps := 2000000) -implicitDefEqProofs
  refine EV.seq ?_
  refine EV.room 15 (by rfl) (fun mj4 => ?_)
  simp at mj4
  refine EV.condT ?_
  simp -implicitDefEqProofs
  refine condT_intro (fun k2 => ?_) (fun k2 => ?_)
  ·try simp at k2
   have u2 : j4 < p0.length := by omega
   obtain ⟨x4, hx4⟩ : ∃ z, p0[j4] = z := ⟨_, rfl⟩
   have mx4 : x4 ∈ p0 := by rw [← hx4]; exact List.getElem_mem _
   rw [List.drop_eq_getElem_cons u2, hx4, eqField_l4] at e4
   refine EV.skip ?_
   simp only [KN1, KN2, KN3]
   refine EV.seq (EV.block (SR ?_))
   simp (maxSteps := 2000000) -implicitDefEqProofs [k2, u2, hx4]
   refine EV.seq ?_
   obtain ⟨y6_2, gy6_2⟩ : ∃ z, (p1.getD j4 default) = z := ⟨_, rfl⟩
   replace e4 := bnd_on e4 gy6_2
   try dsimp only at e4
   have b3 : 0 ≤ (j4 : Int) ∧ (j4 : Int) < (p1.length : Int) := by omega
   have c3 : j4 < p1.length := by omega
   have hy6_2 : p1[j4] = y6_2 := by rw [← gy6_2, List.getD_eq_getElem?_getD, List.getElem?_eq_getElem c3]; rfl
   have my6_2 : y6_2 ∈ p1 := by rw [← hy6_2]; exact List.getElem_mem _
   refine RG ?_
   simp (maxSteps := 2000000) -implicitDefEqProofs [k2, u2, hx4, b3, c3, hy6_2]
   refine SR ?_
   simp (maxSteps := 2000000) -implicitDefEqProofs [k2, u2, hx4, b3, c3, hy6_2]
   refine callG_own [] rfl (H2 x4 y6_2 (by assumption)) ?_ ?_ ?_ ?_ ?_ ?_
   ·simp
   ·simp
   ·simp
   ·simp
   ·simp
   simp (maxSteps := 2000000) -implicitDefEqProofs [k2, u2, hx4, b3, c3, hy6_2, keys, callUpd, List.range_succ]
   refine EV.condT ?_
   simp -implicitDefEqProofs [k2, u2, hx4, b3, c3, hy6_2]
   refine condT_intro (fun k4 => ?_) (fun k4 => ?_)
   ·try simp at k4
    obtain ⟨f4, e4⟩ := PO e4 k4
    try simp at f4
    refine SR ?_
    simp (maxSteps := 2000000) -implicitDefEqProofs [k2, u2, hx4, b3, c3, hy6_2]
    refine EV.ret ?_
    simp only [KR1, KR2, KR3, KR4]
    replace e := run_back e e4
    subst e
    refine Fin.pure0 ?_
    first | (simp; done) | (simp <;> grind)
   try simp at k4
   obtain ⟨f4, e4⟩ := NO e4 k4
   try simp at f4
   refine EV.skip ?_
   simp only [KN1, KN2, KN3]
   refine RG ?_
   simp (maxSteps := 2000000) -implicitDefEqProofs [k2, u2, hx4, b3, c3, hy6_2]
   have w4 : IntKind.i64.wrap ((j4 : Int) + 1) = (j4 : Int) + 1 := wrap_in _ (by omega) (by omega)
   refine ⟨⟨j4 + 1, by omega, e4⟩, by dsimp only; omega, ?_⟩
   try dsimp only
   refine Sub.cutF 0 (by simp) ?_ ?_ <;> simp [List.range_succ, toIdx_range, passed, k2, u2, hx4, b3, c3, hy6_2, w4]
  try simp at k2
  have d2 : p0.drop j4 = [] := List.drop_eq_nil_of_le (by omega)
  rw [d2, eqField_l4] at e4
  refine EV.exit ?_
  simp -implicitDefEqProofs
  refine ⟨⟨((), ()), e4.symm⟩, ?_⟩
  try dsimp only
  refine Sub.cutF 0 (by simp) ?_ ?_ <;> simp [List.range_succ, toIdx_range, passed]
 rintro ⟨⟨v4, g4⟩, e4⟩
 simp only [KN1, KN2, KN3, KN4]
 replace e := run_on e e4
 try dsimp only at e
 refine SR ?_
 simp (maxSteps := 2000000) -implicitDefEqProofs
 refine EV.ret ?_
 simp only [KR1, KR2, KR3, KR4]
 subst e
 refine Fin.pure0 ?_
 first | (simp; done) | (simp <;> grind)

def eqVariant_l4 (p1 : List VariantD) (p2 : VariantD → VariantD → Bool) : List VariantD → Nat → Ctl (Bool) (Unit)
 | [], _ => .go ()
 | x4 :: xs4, j4 => (bnd (p1.getD j4 default) fun (y6_2 : VariantD) => (if ¬ ((p2 x4 y6_2) = true) then .ret false else eqVariant_l4 p1 p2 xs4 (j4 + 1)))
def eqVariant (p0 : List VariantD) (p1 : List VariantD) (p2 : VariantD → VariantD → Bool) : Bool :=
 (if ¬ ((p0.length : Int) = (p1.length : Int)) then false else (Ctl.run (eqVariant_l4 p1 p2 p0 0) fun (v4 : Unit) => true))
theorem w_eqVariant0 (p0 : List VariantD) (p1 : List VariantD) (p2 : VariantD → VariantD → Bool)  (fid2 : FuncId) (H2 : ∀ (u0 : VariantD) (u1 : VariantD), u0 ∈ p0 → QC prog fid2 [.agg [.s u0.name, .i .i64 u0.ty.k, .s u0.ty.name, .ro 3 (u0.ty.l.map tyC)], .agg [.s u1.name, .i .i64 u1.ty.k, .s u1.ty.name, .ro 3 (u1.ty.l.map tyC)]] [] (.b (p2 u0 u1)) []) : QC prog 50 [.ro 4 (p0.map variantC), .ro 4 (p1.map variantC), .fn fid2 []] [] (.b (eqVariant p0 p1 p2)) [] := by
 refine QC.of_body tabOK func50 rfl (by kernel_rfl) ?_
 simp only [f50]
 generalize e : eqVariant p0 p1 p2 = R
 unfold eqVariant at e
 refine SR ?_
 simp (maxSteps := 2000000) -implicitDefEqProofs
 refine EV.seq (SR ?_)
 simp (maxSteps := 2000000) -implicitDefEqProofs
 refine EV.condT ?_
 simp -implicitDefEqProofs
 refine condT_intro (fun k1 => ?_) (fun k1 => ?_)
 ·try simp at k1
  obtain ⟨f1, e⟩ := PO e k1
  try simp at f1
  refine SR ?_
  simp (maxSteps := 2000000) -implicitDefEqProofs
  refine EV.ret ?_
  simp only [KR1, KR2, KR3, KR4]
  subst e
  refine Fin.pure0 ?_
  first | (simp; done) | (simp <;> grind)
 try simp at k1
 obtain ⟨f1, e⟩ := NO e k1
 try simp at f1
 refine EV.skip ?_
 simp only [KN1, KN2, KN3]
 refine EV.seq (SR ?_)
 simp (maxSteps := 2000000) -implicitDefEqProofs
 obtain ⟨z4, e4, e⟩ := run_split e
 refine EV.nrm (fun v : { v : (Unit) × (Unit) // z4 = .go v.1 } => (fun (v4 : Unit) (g4 : Unit) => (⟨[J, J, J, J, J, J, J, J, J, J, J, J, J, J, J, J, J, J, J, J, J, J, J, J, J, J, J, J, J, J, J, J], []⟩ : St)) v.1.1 v.1.2) ?_ ?_
 ·skip
  refine EV.block ?_
  refine EV.loopB (fun x : { x : Nat // x ≤ p0.length ∧ eqVariant_l4 p1 p2 (p0.drop x) x = z4 } => (fun (j4 : Nat) => (⟨[J, .ro 4 (p1.map variantC), .fn fid2 [], J, J, J, J, J, J, J, J, J, J, J, J, .ro 4 (p0.map variantC), .i .i64 (p0.length : Int), .i .i64 (j4 : Int), J, J, J, J, J, J, J, J, J, J, J, J, J, J], []⟩ : St)) x.1) (fun x => p0.length - x.1) ⟨0, Nat.zero_le _, e4⟩ ?_ ?_
  ·skip
   try dsimp only
   try dsimp only
   refine Sub.cutF 0 (by simp) ?_ ?_ <;> simp [List.range_succ, toIdx_range, passed]
  rintro ⟨j4, hi4, e4⟩
  simp only at hi4 e4 ⊢
  refine SR ?_
  simp (maxSteps := 2000000) -implicitDefEqProofs
  refine EV.seq ?_
  refine EV.room 15 (by rfl) (fun mj4 => ?_)
  simp at mj4
  refine EV.condT ?_
  simp -implicitDefEqProofs
  refine condT_intro (fun k2 => ?_) (fun k2 => ?_)
  ·try simp at k2
   have u2 : j4 < p0.length := by omega
   obtain ⟨x4, hx4⟩ : ∃ z, p0[j4] = z := ⟨_, rfl⟩
   have mx4 : x4 ∈ p0 := by rw [← hx4]; exact List.getElem_mem _
   rw [List.drop_eq_getElem_cons u2, hx4, eqVariant_l4] at e4
   refine EV.skip ?_
   simp only [KN1, KN2, KN3]
   refine EV.seq (EV.block (SR ?_))
   simp (maxSteps := 2000000) -implicitDefEqProofs [k2, u2, hx4]
   refine EV.seq ?_
   obtain ⟨y6_2, gy6_2⟩ : ∃ z, (p1.getD j4 default) = z := ⟨_, rfl⟩
   replace e4 := bnd_on e4 gy6_2
   try dsimp only at e4
   have b3 : 0 ≤ (j4 : Int) ∧ (j4 : Int) < (p1.length : Int) := by omega
   have c3 : j4 < p1.length := by omega
   have hy6_2 : p1[j4] = y6_2 := by rw [← gy6_2, List.getD_eq_getElem?_getD, List.getElem?_eq_getElem c3]; rfl
   have my6_2 : y6_2 ∈ p1 := by rw [← hy6_2]; exact List.getElem_mem _
   refine RG ?_
   simp (maxSteps := 2000000) -implicitDefEqProofs [k2, u2, hx4, b3, c3, hy6_2]
   refine SR ?_
   simp (maxSteps := 2000000) -implicitDefEqProofs [k2, u2, hx4, b3, c3, hy6_2]
   refine callG_own [] rfl (H2 x4 y6_2 (by assumption)) ?_ ?_ ?_ ?_ ?_ ?_
   ·simp
   ·simp
   ·simp
   ·simp
   ·simp
   simp (maxSteps := 2000000) -implicitDefEqProofs [k2, u2, hx4, b3, c3, hy6_2, keys, callUpd, List.range_succ]
   refine EV.condT ?_
   simp -implicitDefEqProofs [k2, u2, hx4, b3, c3, hy6_2]
   refine condT_intro (fun k4 => ?_) (fun k4 => ?_)
   ·try simp at k4
    obtain ⟨f4, e4⟩ := PO e4 k4
    try simp at f4
    refine SR ?_
    simp (maxSteps := 2000000) -implicitDefEqProofs [k2, u2, hx4, b3, c3, hy6_2]
    refine EV.ret ?_
    simp only [KR1, KR2, KR3, KR4]
    replace e := run_back e e4
    subst e
    refine Fin.pure0 ?_
    first | (simp; done) | (simp <;> grind)
   try simp at k4
   obtain ⟨f4, e4⟩ := NO e4 k4
   try simp at f4
   refine EV.skip ?_
   simp only [KN1, KN2, KN3]
   refine RG ?_
   simp (maxSteps := 2000000) -implicitDefEqProofs [k2, u2, hx4, b3, c3, hy6_2]
   have w4 : IntKind.i64.wrap ((j4 : Int) + 1) = (j4 : Int) + 1 := wrap_in _ (by omega) (by omega)
   refine ⟨⟨j4 + 1, by omega, e4⟩, by dsimp only; omega, ?_⟩
   try dsimp only
   refine Sub.cutF 0 (by simp) ?_ ?_ <;> simp [List.range_succ, toIdx_range, passed, k2, u2, hx4, b3, c3, hy6_2, w4]
  try simp at k2
  have d2 : p0.drop j4 = [] := List.drop_eq_nil_of_le (by omega)
  rw [d2, eqVariant_l4] at e4
  refine EV.exit ?_
  simp -implicitDefEqProofs
  refine ⟨⟨((), ()), e4.symm⟩, ?_⟩
  try dsimp only
  refine Sub.cutF 0 (by simp) ?_ ?_ <;> simp [List.range_succ, toIdx_range, passed]
 rintro ⟨⟨v4, g4⟩, e4⟩
 simp only [KN1, KN2, KN3, KN4]
 replace e := run_on e e4
 try dsimp only at e
 refine SR ?_
 simp (maxSteps := 2000000) -implicitDefEqProofs
 refine EV.ret ?_
 simp only [KR1, KR2, KR3, KR4]
 subst e
 refine Fin.pure0 ?_
 first | (simp; done) | (simp <;> grind)

def eqStruct_l4 (p1 : List StructD) (p2 : StructD → StructD → Bool) : List StructD → Nat → Ctl (Bool) (Unit)
 | [], _ => .go ()
 | x4 :: xs4, j4 => (bnd (p1.getD j4 default) fun (y6_2 : StructD) => (if ¬ ((p2 x4 y6_2) = true) then .ret false else eqStruct_l4 p1 p2 xs4 (j4 + 1)))
def eqStruct (p0 : List StructD) (p1 : List StructD) (p2 : StructD → StructD → Bool) : Bool :=
 (if ¬ ((p0.length : Int) = (p1.length : Int)) then false else (Ctl.run (eqStruct_l4 p1 p2 p0 0) fun (v4 : Unit) => true))
theorem w_eqStruct0 (p0 : List StructD) (p1 : List StructD) (p2 : StructD → StructD → Bool)  (fid2 : FuncId) (H2 : ∀ (u0 : StructD) (u1 : StructD), u0 ∈ p0 → QC prog fid2 [.agg [.s u0.name, .b u0.drop_, .ro 4 (u0.fields.map fieldC), .i .i64 u0.at_], .agg [.s u1.name, .b u1.drop_, .ro 4 (u1.fields.map fieldC), .i .i64 u1.at_]] [] (.b (p2 u0 u1)) []) : QC prog 54 [.ro 4 (p0.map structC), .ro 4 (p1.map structC), .fn fid2 []] [] (.b (eqStruct p0 p1 p2)) [] := by
 refine QC.of_body tabOK func54 rfl (by kernel_rfl) ?_
 simp only [f54]
 generalize e : eqStruct p0 p1 p2 = R
 unfold eqStruct at e
 refine SR ?_
 simp (maxSteps := 2000000) -implicitDefEqProofs
 refine EV.seq (SR ?_)
 simp (maxSteps := 2000000) -implicitDefEqProofs
 refine EV.condT ?_
 simp -implicitDefEqProofs
 refine condT_intro (fun k1 => ?_) (fun k1 => ?_)
 ·try simp at k1
  obtain ⟨f1, e⟩ := PO e k1
  try simp at f1
  refine SR ?_
  simp (maxSteps := 2000000) -implicitDefEqProofs
  refine EV.ret ?_
  simp only [KR1, KR2, KR3, KR4]
  subst e
  refine Fin.pure0 ?_
  first | (simp; done) | (simp <;> grind)
 try simp at k1
 obtain ⟨f1, e⟩ := NO e k1
 try simp at f1
 refine EV.skip ?_
 simp only [KN1, KN2, KN3]
 refine EV.seq (SR ?_)
 simp (maxSteps := 2000000) -implicitDefEqProofs
 obtain ⟨z4, e4, e⟩ := run_split e
 refine EV.nrm (fun v : { v : (Unit) × (Unit) // z4 = .go v.1 } => (fun (v4 : Unit) (g4 : Unit) => (⟨[J, J, J, J, J, J, J, J, J, J, J, J, J, J, J, J, J, J, J, J, J, J, J, J, J, J, J, J, J, J, J, J], []⟩ : St)) v.1.1 v.1.2) ?_ ?_
 ·skip
  refine EV.block ?_
  refine EV.loopB (fun x : { x : Nat // x ≤ p0.length ∧ eqStruct_l4 p1 p2 (p0.drop x) x = z4 } => (fun (j4 : Nat) => (⟨[J, .ro 4 (p1.map structC), .fn fid2 [], J, J, J, J, J, J, J, J, J, J, J, J, .ro 4 (p0.map structC), .i .i64 (p0.length : Int), .i .i64 (j4 : Int), J, J, J, J, J, J, J, J, J, J, J, J, J, J], []⟩ : St)) x.1) (fun x => p0.length - x.1) ⟨0, Nat.zero_le _, e4⟩ ?_ ?_
  ·skip
   try dsimp only
   try dsimp only
   refine Sub.cutF 0 (by simp) ?_ ?_ <;> simp [List.range_succ, toIdx_range, passed]
  rintro ⟨j4, hi4, e4⟩
  simp only at hi4 e4 ⊢
  refine SR ?_
  simp (maxSteps := 2000000) -implicitDefEqProofs
  refine EV.seq ?_
  refine EV.room 15 (by rfl) (fun mj4 => ?_)
  simp at mj4
  refine EV.condT ?_
  simp -implicitDefEqProofs
  refine condT_intro (fun k2 => ?_) (fun k2 => ?_)
  ·try simp at k2
   have u2 : j4 < p0.length := by omega
   obtain ⟨x4, hx4⟩ : ∃ z, p0[j4] = z := ⟨_, rfl⟩
   have mx4 : x4 ∈ p0 := by rw [← hx4]; exact List.getElem_mem _
   rw [List.drop_eq_getElem_cons u2, hx4, eqStruct_l4] at e4
   refine EV.skip ?_
   simp only [KN1, KN2, KN3]
   refine EV.seq (EV.block (SR ?_))
   simp (maxSteps := 2000000) -implicitDefEqProofs [k2, u2, hx4]
   refine EV.seq ?_
   obtain ⟨y6_2, gy6_2⟩ : ∃ z, (p1.getD j4 default) = z := ⟨_, rfl⟩
   replace e4 := bnd_on e4 gy6_2
   try dsimp only at e4
   have b3 : 0 ≤ (j4 : Int) ∧ (j4 : Int) < (p1.length : Int) := by omega
   have c3 : j4 < p1.length := by omega
   have hy6_2 : p1[j4] = y6_2 := by rw [← gy6_2, List.getD_eq_getElem?_getD, List.getElem?_eq_getElem c3]; rfl
   have my6_2 : y6_2 ∈ p1 := by rw [← hy6_2]; exact List.getElem_mem _
   refine RG ?_
   simp (maxSteps := 2000000) -implicitDefEqProofs [k2, u2, hx4, b3, c3, hy6_2]
   refine SR ?_
   simp (maxSteps := 2000000) -implicitDefEqProofs [k2, u2, hx4, b3, c3, hy6_2]
   refine callG_own [] rfl (H2 x4 y6_2 (by assumption)) ?_ ?_ ?_ ?_ ?_ ?_
   ·simp
   ·simp
   ·simp
   ·simp
   ·simp
   simp (maxSteps := 2000000) -implicitDefEqProofs [k2, u2, hx4, b3, c3, hy6_2, keys, callUpd, List.range_succ]
   refine EV.condT ?_
   simp -implicitDefEqProofs [k2, u2, hx4, b3, c3, hy6_2]
   refine condT_intro (fun k4 => ?_) (fun k4 => ?_)
   ·try simp at k4
    obtain ⟨f4, e4⟩ := PO e4 k4
    try simp at f4
    refine SR ?_
    simp (maxSteps := 2000000) -implicitDefEqProofs [k2, u2, hx4, b3, c3, hy6_2]
    refine EV.ret ?_
    simp only [KR1, KR2, KR3, KR4]
    replace e := run_back e e4
    subst e
    refine Fin.pure0 ?_
    first | (simp; done) | (simp <;> grind)
   try simp at k4
   obtain ⟨f4, e4⟩ := NO e4 k4
   try simp at f4
   refine EV.skip ?_
   simp only [KN1, KN2, KN3]
   refine RG ?_
   simp (maxSteps := 2000000) -implicitDefEqProofs [k2, u2, hx4, b3, c3, hy6_2]
   have w4 : IntKind.i64.wrap ((j4 : Int) + 1) = (j4 : Int) + 1 := wrap_in _ (by omega) (by omega)
   refine ⟨⟨j4 + 1, by omega, e4⟩, by dsimp only; omega, ?_⟩
   try dsimp only
   refine Sub.cutF 0 (by simp) ?_ ?_ <;> simp [List.range_succ, toIdx_range, passed, k2, u2, hx4, b3, c3, hy6_2, w4]
  try simp at k2
  have d2 : p0.drop j4 = [] := List.drop_eq_nil_of_le (by omega)
  rw [d2, eqStruct_l4] at e4
  refine EV.exit ?_
  simp -implicitDefEqProofs
  refine ⟨⟨((), ()), e4.symm⟩, ?_⟩
  try dsimp only
  refine Sub.cutF 0 (by simp) ?_ ?_ <;> simp [List.range_succ, toIdx_range, passed]
 rintro ⟨⟨v4, g4⟩, e4⟩
 simp only [KN1, KN2, KN3, KN4]
 replace e := run_on e e4
 try dsimp only at e
 refine SR ?_
 simp (maxSteps := 2000000) -implicitDefEqProofs
 refine EV.ret ?_
 simp only [KR1, KR2, KR3, KR4]
 subst e
 refine Fin.pure0 ?_
 first | (simp; done) | (simp <;> grind)

def eqEnum_l4 (p1 : List EnumD) (p2 : EnumD → EnumD → Bool) : List EnumD → Nat → Ctl (Bool) (Unit)
 | [], _ => .go ()
 | x4 :: xs4, j4 => (bnd (p1.getD j4 default) fun (y6_2 : EnumD) => (if ¬ ((p2 x4 y6_2) = true) then .ret false else eqEnum_l4 p1 p2 xs4 (j4 + 1)))
def eqEnum (p0 : List EnumD) (p1 : List EnumD) (p2 : EnumD → EnumD → Bool) : Bool :=
 (if ¬ ((p0.length : Int) = (p1.length : Int)) then false else (Ctl.run (eqEnum_l4 p1 p2 p0 0) fun (v4 : Unit) => true))
theorem w_eqEnum1 (p0 : List EnumD) (p1 : List EnumD) (p2 : EnumD → EnumD → Bool)  (csz : Nat) (cc : List V) (hren : ∀ μ, cc.map (ren0 μ) = cc) (fid2 : FuncId) (H2 : ∀ (u0 : EnumD) (u1 : EnumD), QC prog fid2 [.agg [.s u0.name, .ro 4 (u0.variants.map variantC), .i .i64 u0.at_], .agg [.s u1.name, .ro 4 (u1.variants.map variantC), .i .i64 u1.at_], .ptr 0 0 0 0] [.arr 0 csz [cc]] (.b (p2 u0 u1)) [.arr 0 csz [cc]]) : QC prog 55 [.ro 3 (p0.map enumC), .ro 3 (p1.map enumC), .fn fid2 [.ptr 0 0 0 0]] [.arr 0 csz [cc]] (.b (eqEnum p0 p1 p2)) [.arr 0 csz [cc]] := by
 refine QC.of_body tabOK func55 rfl (by kernel_rfl) ?_
 simp only [f55]
 generalize e : eqEnum p0 p1 p2 = R
 unfold eqEnum at e
 refine SR ?_
 simp (maxSteps := 2000000) -implicitDefEqProofs [hren]
 refine EV.seq (SR ?_)
 simp (maxSteps := 2000000) -implicitDefEqProofs [hren]
 refine EV.condT ?_
 simp -implicitDefEqProofs [hren]
 refine condT_intro (fun k1 => ?_) (fun k1 => ?_)
 ·try simp at k1
  obtain ⟨f1, e⟩ := PO e k1
  try simp at f1
  refine SR ?_
  simp (maxSteps := 2000000) -implicitDefEqProofs [hren]
  refine EV.ret ?_
  simp only [KR1, KR2, KR3, KR4]
  subst e
  refine Fin.plain ?_ ?_
  ·simp
  simp [List.range_succ, hren]
 try simp at k1
 obtain ⟨f1, e⟩ := NO e k1
 try simp at f1
 refine EV.skip ?_
 simp only [KN1, KN2, KN3]
 refine EV.seq (SR ?_)
 simp (maxSteps := 2000000) -implicitDefEqProofs [hren]
 obtain ⟨z4, e4, e⟩ := run_split e
 refine EV.nrm (fun v : { v : (Unit) × (Unit) // z4 = .go v.1 } => (fun (v4 : Unit) (g4 : Unit) => (⟨[J, J, J, J, J, J, J, J, J, J, J, J, J, J, J, J, J, J, J, J, J, J, J, J, J, J, J, J, J, J, J, J], [.arr 0 csz [cc]]⟩ : St)) v.1.1 v.1.2) ?_ ?_
 ·skip
  refine EV.block ?_
  refine EV.loopB (fun x : { x : Nat // x ≤ p0.length ∧ eqEnum_l4 p1 p2 (p0.drop x) x = z4 } => (fun (j4 : Nat) => (⟨[J, .ro 3 (p1.map enumC), .fn fid2 [.ptr 0 0 0 0], J, J, J, J, J, J, J, J, J, J, J, J, .ro 3 (p0.map enumC), .i .i64 (p0.length : Int), .i .i64 (j4 : Int), J, J, J, J, J, J, J, J, J, J, J, J, J, J], [.arr 0 csz [cc]]⟩ : St)) x.1) (fun x => p0.length - x.1) ⟨0, Nat.zero_le _, e4⟩ ?_ ?_
  ·skip
   try dsimp only
   try dsimp only
   refine Sub.cutF 1 (by simp) ?_ ?_ <;> simp [List.range_succ, toIdx_range, passed, hren]
  rintro ⟨j4, hi4, e4⟩
  simp only at hi4 e4 ⊢
  refine SR ?_
  simp (maxSteps := 2000000) -implicitDefEqProofs [hren]
  refine EV.seq ?_
  refine EV.room 15 (by rfl) (fun mj4 => ?_)
  simp at mj4
  refine EV.condT ?_
  simp -implicitDefEqProofs [hren]
  refine condT_intro (fun k2 => ?_) (fun k2 => ?_)
  ·try simp at k2
   have u2 : j4 < p0.length := by omega
   obtain ⟨x4, hx4⟩ : ∃ z, p0[j4] = z := ⟨_, rfl⟩
   have mx4 : x4 ∈ p0 := by rw [← hx4]; exact List.getElem_mem _
   rw [List.drop_eq_getElem_cons u2, hx4, eqEnum_l4] at e4
   refine EV.skip ?_
   simp only [KN1, KN2, KN3]
   refine EV.seq (EV.block (SR ?_))
   simp (maxSteps := 2000000) -implicitDefEqProofs [hren, k2, u2, hx4]
   refine EV.seq ?_
   obtain ⟨y6_2, gy6_2⟩ : ∃ z, (p1.getD j4 default) = z := ⟨_, rfl⟩
   replace e4 := bnd_on e4 gy6_2
   try dsimp only at e4
   have b3 : 0 ≤ (j4 : Int) ∧ (j4 : Int) < (p1.length : Int) := by omega
   have c3 : j4 < p1.length := by omega
   have hy6_2 : p1[j4] = y6_2 := by rw [← gy6_2, List.getD_eq_getElem?_getD, List.getElem?_eq_getElem c3]; rfl
   have my6_2 : y6_2 ∈ p1 := by rw [← hy6_2]; exact List.getElem_mem _
   refine RG ?_
   simp (maxSteps := 2000000) -implicitDefEqProofs [hren, k2, u2, hx4, b3, c3, hy6_2]
   refine SR ?_
   simp (maxSteps := 2000000) -implicitDefEqProofs [hren, k2, u2, hx4, b3, c3, hy6_2]
   refine callG_own [0] rfl (H2 x4 y6_2) ?_ ?_ ?_ ?_ ?_ ?_
   ·simp [hren]
   ·simp [hren]
   ·simp
   ·simp
   ·simp
   simp (maxSteps := 2000000) -implicitDefEqProofs [hren, k2, u2, hx4, b3, c3, hy6_2, keys, callUpd, List.range_succ]
   refine EV.condT ?_
   simp -implicitDefEqProofs [hren, k2, u2, hx4, b3, c3, hy6_2]
   refine condT_intro (fun k4 => ?_) (fun k4 => ?_)
   ·try simp at k4
    obtain ⟨f4, e4⟩ := PO e4 k4
    try simp at f4
    refine SR ?_
    simp (maxSteps := 2000000) -implicitDefEqProofs [hren, k2, u2, hx4, b3, c3, hy6_2]
    refine EV.ret ?_
    simp only [KR1, KR2, KR3, KR4]
    replace e := run_back e e4
    subst e
    refine Fin.plain ?_ ?_
    ·simp
    simp [List.range_succ, hren]
   try simp at k4
   obtain ⟨f4, e4⟩ := NO e4 k4
   try simp at f4
   refine EV.skip ?_
   simp only [KN1, KN2, KN3]
   refine RG ?_
   simp (maxSteps := 2000000) -implicitDefEqProofs [hren, k2, u2, hx4, b3, c3, hy6_2]
   have w4 : IntKind.i64.wrap ((j4 : Int) + 1) = (j4 : Int) + 1 := wrap_in _ (by omega) (by omega)
   refine ⟨⟨j4 + 1, by omega, e4⟩, by dsimp only; omega, ?_⟩
   try dsimp only
   refine Sub.cutF 1 (by simp) ?_ ?_ <;> simp [List.range_succ, toIdx_range, passed, hren, k2, u2, hx4, b3, c3, hy6_2, w4]
  try simp at k2
  have d2 : p0.drop j4 = [] := List.drop_eq_nil_of_le (by omega)
  rw [d2, eqEnum_l4] at e4
  refine EV.exit ?_
  simp -implicitDefEqProofs
  refine ⟨⟨((), ()), e4.symm⟩, ?_⟩
  try dsimp only
  refine Sub.cutF 1 (by simp) ?_ ?_ <;> simp [List.range_succ, toIdx_range, passed, hren]
 rintro ⟨⟨v4, g4⟩, e4⟩
 simp only [KN1, KN2, KN3, KN4]
 replace e := run_on e e4
 try dsimp only at e
 refine SR ?_
 simp (maxSteps := 2000000) -implicitDefEqProofs [hren]
 refine EV.ret ?_
 simp only [KR1, KR2, KR3, KR4]
 subst e
 refine Fin.plain ?_ ?_
 ·simp
 simp [List.range_succ, hren]

def eqFn_l4 (p1 : List FnD) (p2 : FnD → FnD → Bool) : List FnD → Nat → Ctl (Bool) (Unit)
 | [], _ => .go ()
 | x4 :: xs4, j4 => (bnd (p1.getD j4 default) fun (y6_2 : FnD) => (if ¬ ((p2 x4 y6_2) = true) then .ret false else eqFn_l4 p1 p2 xs4 (j4 + 1)))
def eqFn (p0 : List FnD) (p1 : List FnD) (p2 : FnD → FnD → Bool) : Bool :=
 (if ¬ ((p0.length : Int) = (p1.length : Int)) then false else (Ctl.run (eqFn_l4 p1 p2 p0 0) fun (v4 : Unit) => true))
theorem w_eqFn0 (p0 : List FnD) (p1 : List FnD) (p2 : FnD → FnD → Bool)  (fid2 : FuncId) (H2 : ∀ (u0 : FnD) (u1 : FnD), u0 ∈ p0 → QC prog fid2 [.agg [.s u0.name, .ro 4 (u0.params.map fieldC), .ro 21 (u0.body.map stmtC), .i .i64 u0.at_], .agg [.s u1.name, .ro 4 (u1.params.map fieldC), .ro 21 (u1.body.map stmtC), .i .i64 u1.at_]] [] (.b (p2 u0 u1)) []) : QC prog 56 [.ro 4 (p0.map fnC), .ro 4 (p1.map fnC), .fn fid2 []] [] (.b (eqFn p0 p1 p2)) [] := by
 refine QC.of_body tabOK func56 rfl (by kernel_rfl) ?_
 simp only [f56]
 generalize e : eqFn p0 p1 p2 = R
 unfold eqFn at e
 refine SR ?_
 simp (maxSteps := 2000000) -implicitDefEqProofs
 refine EV.seq (SR ?_)
 simp (maxSteps := 2000000) -implicitDefEqProofs
 refine EV.condT ?_
 simp -implicitDefEqProofs
 refine condT_intro (fun k1 => ?_) (fun k1 => ?_)
 ·try simp at k1
  obtain ⟨f1, e⟩ := PO e k1
  try simp at f1
  refine SR ?_
  simp (maxSteps := 2000000) -implicitDefEqProofs
  refine EV.ret ?_
  simp only [KR1, KR2, KR3, KR4]
  subst e
  refine Fin.pure0 ?_
  first | (simp; done) | (simp <;> grind)
 try simp at k1
 obtain ⟨f1, e⟩ := NO e k1
 try simp at f1
 refine EV.skip ?_
 simp only [KN1, KN2, KN3]
 refine EV.seq (SR ?_)
 simp (maxSteps := 2000000) -implicitDefEqProofs
 obtain ⟨z4, e4, e⟩ := run_split e
 refine EV.nrm (fun v : { v : (Unit) × (Unit) // z4 = .go v.1 } => (fun (v4 : Unit) (g4 : Unit) => (⟨[J, J, J, J, J, J, J, J, J, J, J, J, J, J, J, J, J, J, J, J, J, J, J, J, J, J, J, J, J, J, J, J], []⟩ : St)) v.1.1 v.1.2) ?_ ?_
 ·skip
  refine EV.block ?_
  refine EV.loopB (fun x : { x : Nat // x ≤ p0.length ∧ eqFn_l4 p1 p2 (p0.drop x) x = z4 } => (fun (j4 : Nat) => (⟨[J, .ro 4 (p1.map fnC), .fn fid2 [], J, J, J, J, J, J, J, J, J, J, J, J, .ro 4 (p0.map fnC), .i .i64 (p0.length : Int), .i .i64 (j4 : Int), J, J, J, J, J, J, J, J, J, J, J, J, J, J], []⟩ : St)) x.1) (fun x => p0.length - x.1) ⟨0, Nat.zero_le _, e4⟩ ?_ ?_
  ·skip
   try dsimp only
   try dsimp only
   refine Sub.cutF 0 (by simp) ?_ ?_ <;> simp [List.range_succ, toIdx_range, passed]
  rintro ⟨j4, hi4, e4⟩
  simp only at hi4 e4 ⊢
  refine SR ?_
  simp (maxSteps := 2000000) -implicitDefEqProofs
  refine EV.seq ?_
  refine EV.room 15 (by rfl) (fun mj4 => ?_)
  simp at mj4
  refine EV.condT ?_
  simp -implicitDefEqProofs
  refine condT_intro (fun k2 => ?_) (fun k2 => ?_)
  ·try simp at k2
   have u2 : j4 < p0.length := by omega
   obtain ⟨x4, hx4⟩ : ∃ z, p0[j4] = z := ⟨_, rfl⟩
   have mx4 : x4 ∈ p0 := by rw [← hx4]; exact List.getElem_mem _
   rw [List.drop_eq_getElem_cons u2, hx4, eqFn_l4] at e4
   refine EV.skip ?_
   simp only [KN1, KN2, KN3]
   refine EV.seq (EV.block (SR ?_))
   simp (maxSteps := 2000000) -implicitDefEqProofs [k2, u2, hx4]
   refine EV.seq ?_
   obtain ⟨y6_2, gy6_2⟩ : ∃ z, (p1.getD j4 default) = z := ⟨_, rfl⟩
   replace e4 := bnd_on e4 gy6_2
   try dsimp only at e4
   have b3 : 0 ≤ (j4 : Int) ∧ (j4 : Int) < (p1.length : Int) := by omega
   have c3 : j4 < p1.length := by omega
   have hy6_2 : p1[j4] = y6_2 := by rw [← gy6_2, List.getD_eq_getElem?_getD, List.getElem?_eq_getElem c3]; rfl
   have my6_2 : y6_2 ∈ p1 := by rw [← hy6_2]; exact List.getElem_mem _
   refine RG ?_
   simp (maxSteps := 2000000) -implicitDefEqProofs [k2, u2, hx4, b3, c3, hy6_2]
   refine SR ?_
   simp (maxSteps := 2000000) -implicitDefEqProofs [k2, u2, hx4, b3, c3, hy6_2]
   refine callG_own [] rfl (H2 x4 y6_2 (by assumption)) ?_ ?_ ?_ ?_ ?_ ?_
   ·simp
   ·simp
   ·simp
   ·simp
   ·simp
   simp (maxSteps := 2000000) -implicitDefEqProofs [k2, u2, hx4, b3, c3, hy6_2, keys, callUpd, List.range_succ]
   refine EV.condT ?_
   simp -implicitDefEqProofs [k2, u2, hx4, b3, c3, hy6_2]
   refine condT_intro (fun k4 => ?_) (fun k4 => ?_)
   ·try simp at k4
    obtain ⟨f4, e4⟩ := PO e4 k4
    try simp at f4
    refine SR ?_
    simp (maxSteps := 2000000) -implicitDefEqProofs [k2, u2, hx4, b3, c3, hy6_2]
    refine EV.ret ?_
    simp only [KR1, KR2, KR3, KR4]
    replace e := run_back e e4
    subst e
    refine Fin.pure0 ?_
    first | (simp; done) | (simp <;> grind)
   try simp at k4
   obtain ⟨f4, e4⟩ := NO e4 k4
   try simp at f4
   refine EV.skip ?_
   simp only [KN1, KN2, KN3]
   refine RG ?_
   simp (maxSteps := 2000000) -implicitDefEqProofs [k2, u2, hx4, b3, c3, hy6_2]
   have w4 : IntKind.i64.wrap ((j4 : Int) + 1) = (j4 : Int) + 1 := wrap_in _ (by omega) (by omega)
   refine ⟨⟨j4 + 1, by omega, e4⟩, by dsimp only; omega, ?_⟩
   try dsimp only
   refine Sub.cutF 0 (by simp) ?_ ?_ <;> simp [List.range_succ, toIdx_range, passed, k2, u2, hx4, b3, c3, hy6_2, w4]
  try simp at k2
  have d2 : p0.drop j4 = [] := List.drop_eq_nil_of_le (by omega)
  rw [d2, eqFn_l4] at e4
  refine EV.exit ?_
  simp -implicitDefEqProofs
  refine ⟨⟨((), ()), e4.symm⟩, ?_⟩
  try dsimp only
  refine Sub.cutF 0 (by simp) ?_ ?_ <;> simp [List.range_succ, toIdx_range, passed]
 rintro ⟨⟨v4, g4⟩, e4⟩
 simp only [KN1, KN2, KN3, KN4]
 replace e := run_on e e4
 try dsimp only at e
 refine SR ?_
 simp (maxSteps := 2000000) -implicitDefEqProofs
 refine EV.ret ?_
 simp only [KR1, KR2, KR3, KR4]
 subst e
 refine Fin.pure0 ?_
 first | (simp; done) | (simp <;> grind)

def tSame_1 (p0 : StructD) (p1 : StructD) : Bool :=
 (((decide (p0.name = p1.name)) && (p0.drop_ == p1.drop_)) && (eqField p0.fields p1.fields tSameField))
theorem w_tSame_1 (p0 : StructD) (p1 : StructD)  : QC prog 44 [.agg [.s p0.name, .b p0.drop_, .ro 4 (p0.fields.map fieldC), .i .i64 p0.at_], .agg [.s p1.name, .b p1.drop_, .ro 4 (p1.fields.map fieldC), .i .i64 p1.at_]] [] (.b (tSame_1 p0 p1)) [] := by
 refine QC.of_body tabOK func44 rfl (by kernel_rfl) ?_
 simp only [f44]
 generalize e : tSame_1 p0 p1 = R
 unfold tSame_1 at e
 refine SR ?_
 simp (maxSteps := 2000000) -implicitDefEqProofs
 refine EV.seq ?_
 refine EV.nrm (fun _ : Unit => (⟨[J, J, J, J, .b (((decide (p0.name = p1.name)) && (p0.drop_ == p1.drop_)) && (eqField p0.fields p1.fields tSameField)), J, J, J, J, J, J, J, J, J, J, J, J, J, J, J, J, J, J, J], []⟩ : St)) ?_ ?_
 ·skip
  by_cases k2 : p0.name = p1.name
  ·skip
   have kk2 := k2
   try simp at kk2
   cases k3 : p0.drop_
   ·skip
    have kk3 := k3
    try simp at kk3
    cases k4 : p1.drop_
    ·skip
     have kk4 := k4
     try simp at kk4
     refine RG ?_
     simp (maxSteps := 2000000) -implicitDefEqProofs +contextual [k2, kk2, k3, kk3, k4, kk4]
     refine callG_own [] rfl (w_eqField0 p0.fields p1.fields tSameField 46 (fun u0 u1 h0 => w_tSameField  u0 u1)) ?_ ?_ ?_ ?_ ?_ ?_
     ·simp
     ·simp
     ·simp
     ·simp
     ·simp
     simp (maxSteps := 2000000) -implicitDefEqProofs +contextual [k2, kk2, k3, kk3, k4, kk4, keys, callUpd, List.range_succ]
     refine ⟨(), ?_⟩
     try dsimp only
     refine Sub.cutF 0 (by simp) ?_ ?_ <;> simp [List.range_succ, toIdx_range, passed, k2, kk2, k3, kk3, k4, kk4]
    have kk4 := k4
    try simp at kk4
    refine RG ?_
    simp (maxSteps := 2000000) -implicitDefEqProofs +contextual [k2, kk2, k3, kk3, k4, kk4]
    refine ⟨(), ?_⟩
    try dsimp only
    refine Sub.cutF 0 (by simp) ?_ ?_ <;> simp [List.range_succ, toIdx_range, passed, k2, kk2, k3, kk3, k4, kk4]
   have kk3 := k3
   try simp at kk3
   cases k5 : p1.drop_
   ·skip
    have kk5 := k5
    try simp at kk5
    refine RG ?_
    simp (maxSteps := 2000000) -implicitDefEqProofs +contextual [k2, kk2, k3, kk3, k5, kk5]
    refine ⟨(), ?_⟩
    try dsimp only
    refine Sub.cutF 0 (by simp) ?_ ?_ <;> simp [List.range_succ, toIdx_range, passed, k2, kk2, k3, kk3, k5, kk5]
   have kk5 := k5
   try simp at kk5
   refine RG ?_
   simp (maxSteps := 2000000) -implicitDefEqProofs +contextual [k2, kk2, k3, kk3, k5, kk5]
   refine callG_own [] rfl (w_eqField0 p0.fields p1.fields tSameField 46 (fun u0 u1 h0 => w_tSameField  u0 u1)) ?_ ?_ ?_ ?_ ?_ ?_
   ·simp
   ·simp
   ·simp
   ·simp
   ·simp
   simp (maxSteps := 2000000) -implicitDefEqProofs +contextual [k2, kk2, k3, kk3, k5, kk5, keys, callUpd, List.range_succ]
   refine ⟨(), ?_⟩
   try dsimp only
   refine Sub.cutF 0 (by simp) ?_ ?_ <;> simp [List.range_succ, toIdx_range, passed, k2, kk2, k3, kk3, k5, kk5]
  have kk2 := k2
  try simp at kk2
  refine RG ?_
  simp (maxSteps := 2000000) -implicitDefEqProofs +contextual [k2, kk2]
  refine ⟨(), ?_⟩
  try dsimp only
  refine Sub.cutF 0 (by simp) ?_ ?_ <;> simp [List.range_succ, toIdx_range, passed, k2, kk2]
 rintro _
 simp only [KN1, KN2, KN3, KN4]
 refine EV.ret ?_
 simp only [KR1, KR2, KR3, KR4]
 subst e
 refine Fin.pure0 ?_
 first | (simp; done) | (simp <;> grind)

def tSame_2 (p0 : VariantD) (p1 : VariantD) : Bool :=
 ((decide (p0.name = p1.name)) && (tSameTy p0.ty p1.ty))
theorem w_tSame_2 (p0 : VariantD) (p1 : VariantD)  : QC prog 47 [.agg [.s p0.name, .i .i64 p0.ty.k, .s p0.ty.name, .ro 3 (p0.ty.l.map tyC)], .agg [.s p1.name, .i .i64 p1.ty.k, .s p1.ty.name, .ro 3 (p1.ty.l.map tyC)]] [] (.b (tSame_2 p0 p1)) [] := by
 refine QC.of_body tabOK func47 rfl (by kernel_rfl) ?_
 simp only [f47]
 generalize e : tSame_2 p0 p1 = R
 unfold tSame_2 at e
 refine SR ?_
 simp (maxSteps := 2000000) -implicitDefEqProofs
 refine EV.seq ?_
 refine EV.nrm (fun _ : Unit => (⟨[J, J, J, J, .b ((decide (p0.name = p1.name)) && (tSameTy p0.ty p1.ty)), J, J, J, J, J, J, J, J, J, J, J, J], []⟩ : St)) ?_ ?_
 ·skip
  by_cases k2 : p0.name = p1.name
  ·skip
   have kk2 := k2
   try simp at kk2
   refine RG ?_
   simp (maxSteps := 2000000) -implicitDefEqProofs +contextual [k2, kk2]
   refine callG_fun (w_tSameTy p0.ty p1.ty) ?_ ?_
   ·first | (simp; done) | (simp [k2, kk2]; done)
   simp (maxSteps := 2000000) -implicitDefEqProofs +contextual [k2, kk2]
   refine ⟨(), ?_⟩
   try dsimp only
   refine Sub.cutF 0 (by simp) ?_ ?_ <;> simp [List.range_succ, toIdx_range, passed, k2, kk2]
  have kk2 := k2
  try simp at kk2
  refine RG ?_
  simp (maxSteps := 2000000) -implicitDefEqProofs +contextual [k2, kk2]
  refine ⟨(), ?_⟩
  try dsimp only
  refine Sub.cutF 0 (by simp) ?_ ?_ <;> simp [List.range_succ, toIdx_range, passed, k2, kk2]
 rintro _
 simp only [KN1, KN2, KN3, KN4]
 refine EV.ret ?_
 simp only [KR1, KR2, KR3, KR4]
 subst e
 refine Fin.pure0 ?_
 first | (simp; done) | (simp <;> grind)

def tSame_3 (p0 : EnumD) (p1 : EnumD) : Bool :=
 ((decide (p0.name = p1.name)) && (eqVariant p0.variants p1.variants tSame_2))
theorem w_tSame_3 (p0 : EnumD) (p1 : EnumD)  : QC prog 49 [.agg [.s p0.name, .ro 4 (p0.variants.map variantC), .i .i64 p0.at_], .agg [.s p1.name, .ro 4 (p1.variants.map variantC), .i .i64 p1.at_], .ptr 0 0 0 0] [.arr 0 1 [[.fn 47 []]]] (.b (tSame_3 p0 p1)) [.arr 0 1 [[.fn 47 []]]] := by
 refine QC.of_body tabOK func49 rfl (by kernel_rfl) ?_
 simp only [f49]
 generalize e : tSame_3 p0 p1 = R
 unfold tSame_3 at e
 refine SR ?_
 simp (maxSteps := 2000000) -implicitDefEqProofs
 refine EV.seq ?_
 refine EV.nrm (fun _ : Unit => (⟨[J, J, J, J, J, .b ((decide (p0.name = p1.name)) && (eqVariant p0.variants p1.variants tSame_2)), J, J, J, J, J, J, J, J, J, J, J, J, J], [.arr 0 1 [[.fn 47 []]]]⟩ : St)) ?_ ?_
 ·skip
  by_cases k2 : p0.name = p1.name
  ·skip
   have kk2 := k2
   try simp at kk2
   refine RG ?_
   simp (maxSteps := 2000000) -implicitDefEqProofs +contextual [k2, kk2]
   refine callG_own [] rfl (w_eqVariant0 p0.variants p1.variants tSame_2 47 (fun u0 u1 h0 => w_tSame_2  u0 u1)) ?_ ?_ ?_ ?_ ?_ ?_
   ·simp
   ·simp
   ·simp
   ·simp
   ·simp
   simp (maxSteps := 2000000) -implicitDefEqProofs +contextual [k2, kk2, keys, callUpd, List.range_succ]
   refine ⟨(), ?_⟩
   try dsimp only
   refine Sub.cutF 1 (by simp) ?_ ?_ <;> simp [List.range_succ, toIdx_range, passed, k2, kk2]
  have kk2 := k2
  try simp at kk2
  refine RG ?_
  simp (maxSteps := 2000000) -implicitDefEqProofs +contextual [k2, kk2]
  refine ⟨(), ?_⟩
  try dsimp only
  refine Sub.cutF 1 (by simp) ?_ ?_ <;> simp [List.range_succ, toIdx_range, passed, k2, kk2]
 rintro _
 simp only [KN1, KN2, KN3, KN4]
 refine EV.ret ?_
 simp only [KR1, KR2, KR3, KR4]
 subst e
 refine Fin.plain ?_ ?_
 ·simp
 simp [List.range_succ]

def tSame_4 (p0 : FnD) (p1 : FnD) : Bool :=
 (((decide (p0.name = p1.name)) && (eqField p0.params p1.params tSameField)) && (eqStmt p0.body p1.body tSameStmt))
theorem w_tSame_4 (p0 : FnD) (p1 : FnD)  : QC prog 51 [.agg [.s p0.name, .ro 4 (p0.params.map fieldC), .ro 21 (p0.body.map stmtC), .i .i64 p0.at_], .agg [.s p1.name, .ro 4 (p1.params.map fieldC), .ro 21 (p1.body.map stmtC), .i .i64 p1.at_]] [] (.b (tSame_4 p0 p1)) [] := by
 refine QC.of_body tabOK func51 rfl (by kernel_rfl) ?_
 simp only [f51]
 generalize e : tSame_4 p0 p1 = R
 unfold tSame_4 at e
 refine SR ?_
 simp (maxSteps := 2000000) -implicitDefEqProofs
 refine EV.seq ?_
 refine EV.nrm (fun _ : Unit => (⟨[J, J, J, J, .b (((decide (p0.name = p1.name)) && (eqField p0.params p1.params tSameField)) && (eqStmt p0.body p1.body tSameStmt)), J, J, J, J, J, J, J, J, J, J, J, J, J, J, J, J, J, J, J], []⟩ : St)) ?_ ?_
 ·skip
  by_cases k2 : p0.name = p1.name
  ·skip
   have kk2 := k2
   try simp at kk2
   cases k3 : (eqField p0.params p1.params tSameField)
   ·skip
    have kk3 := k3
    try simp at kk3
    refine RG ?_
    simp (maxSteps := 2000000) -implicitDefEqProofs +contextual [k2, kk2, k3, kk3]
    refine callG_own [] rfl (w_eqField0 p0.params p1.params tSameField 46 (fun u0 u1 h0 => w_tSameField  u0 u1)) ?_ ?_ ?_ ?_ ?_ ?_
    ·simp
    ·simp
    ·simp
    ·simp
    ·simp
    simp (maxSteps := 2000000) -implicitDefEqProofs +contextual [k2, kk2, k3, kk3, keys, callUpd, List.range_succ]
    refine ⟨(), ?_⟩
    try dsimp only
    refine Sub.cutF 0 (by simp) ?_ ?_ <;> simp [List.range_succ, toIdx_range, passed, k2, kk2, k3, kk3]
   have kk3 := k3
   try simp at kk3
   refine RG ?_
   simp (maxSteps := 2000000) -implicitDefEqProofs +contextual [k2, kk2, k3, kk3]
   refine callG_own [] rfl (w_eqField0 p0.params p1.params tSameField 46 (fun u0 u1 h0 => w_tSameField  u0 u1)) ?_ ?_ ?_ ?_ ?_ ?_
   ·simp
   ·simp
   ·simp
   ·simp
   ·simp
   simp (maxSteps := 2000000) -implicitDefEqProofs +contextual [k2, kk2, k3, kk3, keys, callUpd, List.range_succ]
   refine callG_own [] rfl (w_eqStmt0 p0.body p1.body tSameStmt 53 (fun u0 u1 h0 => w_tSameStmt  u0 u1)) ?_ ?_ ?_ ?_ ?_ ?_
   ·simp
   ·simp
   ·simp
   ·simp
   ·simp
   simp (maxSteps := 2000000) -implicitDefEqProofs +contextual [k2, kk2, k3, kk3, keys, callUpd, List.range_succ]
   refine ⟨(), ?_⟩
   try dsimp only
   refine Sub.cutF 0 (by simp) ?_ ?_ <;> simp [List.range_succ, toIdx_range, passed, k2, kk2, k3, kk3]
  have kk2 := k2
  try simp at kk2
  refine RG ?_
  simp (maxSteps := 2000000) -implicitDefEqProofs +contextual [k2, kk2]
  refine ⟨(), ?_⟩
  try dsimp only
  refine Sub.cutF 0 (by simp) ?_ ?_ <;> simp [List.range_succ, toIdx_range, passed, k2, kk2]
 rintro _
 simp only [KN1, KN2, KN3, KN4]
 refine EV.ret ?_
 simp only [KR1, KR2, KR3, KR4]
 subst e
 refine Fin.pure0 ?_
 first | (simp; done) | (simp <;> grind)

def tSame (p0 : SourceD) (p1 : SourceD) : Bool :=
 (((eqStruct p0.structs p1.structs tSame_1) && (eqEnum p0.enums p1.enums tSame_3)) && (eqFn p0.fns p1.fns tSame_4))
theorem w_tSame (p0 : SourceD) (p1 : SourceD)  : QC prog 14 [.agg [.ro 4 (p0.structs.map structC), .ro 3 (p0.enums.map enumC), .ro 4 (p0.fns.map fnC)], .agg [.ro 4 (p1.structs.map structC), .ro 3 (p1.enums.map enumC), .ro 4 (p1.fns.map fnC)]] [] (.b (tSame p0 p1)) [] := by
 refine QC.of_body tabOK func14 rfl (by kernel_rfl) ?_
 simp only [f14]
 generalize e : tSame p0 p1 = R
 unfold tSame at e
 refine SR ?_
 simp (maxSteps := 2000000) -implicitDefEqProofs
 refine SR ?_
 simp (maxSteps := 2000000) -implicitDefEqProofs
 refine SR ?_
 simp (maxSteps := 2000000) -implicitDefEqProofs
 refine SR ?_
 simp (maxSteps := 2000000) -implicitDefEqProofs
 refine SR ?_
 simp (maxSteps := 2000000) -implicitDefEqProofs
 refine EV.seq ?_
 refine EV.nrm (fun _ : Unit => (⟨[J, J, J, J, .b (((eqStruct p0.structs p1.structs tSame_1) && (eqEnum p0.enums p1.enums tSame_3)) && (eqFn p0.fns p1.fns tSame_4)), J, J, J, J, J, J, J, J, J, J, J, J, J, J, J, J, J, J, J, J, J, J, J, J, J, J, J], []⟩ : St)) ?_ ?_
 ·skip
  cases k2 : (eqStruct p0.structs p1.structs tSame_1)
  ·skip
   have kk2 := k2
   try simp at kk2
   refine RG ?_
   simp (maxSteps := 2000000) -implicitDefEqProofs +contextual [k2, kk2]
   refine callG_own [] rfl (w_eqStruct0 p0.structs p1.structs tSame_1 44 (fun u0 u1 h0 => w_tSame_1  u0 u1)) ?_ ?_ ?_ ?_ ?_ ?_
   ·simp
   ·simp
   ·simp
   ·simp
   ·simp
   simp (maxSteps := 2000000) -implicitDefEqProofs +contextual [k2, kk2, keys, callUpd, List.range_succ]
   refine ⟨(), ?_⟩
   try dsimp only
   refine Sub.cutF 0 (by simp) ?_ ?_ <;> simp [List.range_succ, toIdx_range, passed, k2, kk2]
  have kk2 := k2
  try simp at kk2
  cases k3 : (eqEnum p0.enums p1.enums tSame_3)
  ·skip
   have kk3 := k3
   try simp at kk3
   refine RG ?_
   simp (maxSteps := 2000000) -implicitDefEqProofs +contextual [k2, kk2, k3, kk3]
   refine callG_own [] rfl (w_eqStruct0 p0.structs p1.structs tSame_1 44 (fun u0 u1 h0 => w_tSame_1  u0 u1)) ?_ ?_ ?_ ?_ ?_ ?_
   ·simp
   ·simp
   ·simp
   ·simp
   ·simp
   simp (maxSteps := 2000000) -implicitDefEqProofs +contextual [k2, kk2, k3, kk3, keys, callUpd, List.range_succ]
   refine callG_own [2] rfl (w_eqEnum1 p0.enums p1.enums tSame_3 1 [.fn 47 []] (fun _ => rfl) 49 (fun u0 u1  => w_tSame_3  u0 u1)) ?_ ?_ ?_ ?_ ?_ ?_
   ·simp
   ·simp
   ·simp
   ·simp
   ·simp
   simp (maxSteps := 2000000) -implicitDefEqProofs +contextual [k2, kk2, k3, kk3, keys, callUpd, List.range_succ]
   refine ⟨(), ?_⟩
   try dsimp only
   refine Sub.cutF 0 (by simp) ?_ ?_ <;> simp [List.range_succ, toIdx_range, passed, k2, kk2, k3, kk3]
  have kk3 := k3
  try simp at kk3
  refine RG ?_
  simp (maxSteps := 2000000) -implicitDefEqProofs +contextual [k2, kk2, k3, kk3]
  refine callG_own [] rfl (w_eqStruct0 p0.structs p1.structs tSame_1 44 (fun u0 u1 h0 => w_tSame_1  u0 u1)) ?_ ?_ ?_ ?_ ?_ ?_
  ·simp
  ·simp
  ·simp
  ·simp
  ·simp
  simp (maxSteps := 2000000) -implicitDefEqProofs +contextual [k2, kk2, k3, kk3, keys, callUpd, List.range_succ]
  refine callG_own [2] rfl (w_eqEnum1 p0.enums p1.enums tSame_3 1 [.fn 47 []] (fun _ => rfl) 49 (fun u0 u1  => w_tSame_3  u0 u1)) ?_ ?_ ?_ ?_ ?_ ?_
  ·simp
  ·simp
  ·simp
  ·simp
  ·simp
  simp (maxSteps := 2000000) -implicitDefEqProofs +contextual [k2, kk2, k3, kk3, keys, callUpd, List.range_succ]
  refine callG_own [] rfl (w_eqFn0 p0.fns p1.fns tSame_4 51 (fun u0 u1 h0 => w_tSame_4  u0 u1)) ?_ ?_ ?_ ?_ ?_ ?_
  ·simp
  ·simp
  ·simp
  ·simp
  ·simp
  simp (maxSteps := 2000000) -implicitDefEqProofs +contextual [k2, kk2, k3, kk3, keys, callUpd, List.range_succ]
  refine ⟨(), ?_⟩
  try dsimp only
  refine Sub.cutF 0 (by simp) ?_ ?_ <;> simp [List.range_succ, toIdx_range, passed, k2, kk2, k3, kk3]
 ·skip
  rintro _
  simp only [KN1, KN2, KN3, KN4]
  refine EV.ret ?_
  simp only [KR1, KR2, KR3, KR4]
  subst e
  refine Fin.pure0 ?_
  first | (simp; done) | (simp <;> grind)
end
end Go.Proofs.Tryz
end
section
namespace Go.Proofs.Tryz
open Go Go.AM
set_option maxRecDepth 10000

theorem eqField_eq (a b : List FieldD) (r : FieldD → FieldD → Bool) : eqField a b r = all2 r a b := by
  unfold eqField
  by_cases hl : a.length = b.length
  · rw [if_neg (by omega), run_loop (eqField_l4 b r) b r (fun j => by rw [eqField_l4]) (fun x xs j => by rw [eqField_l4]; dsimp only [bnd]; generalize b.getD j default = y; cases r x y <;> simp) _ _ hl, Bool.and_true]
  · rw [all2_false hl, if_pos (by omega)]

theorem eqVariant_eq (a b : List VariantD) (r : VariantD → VariantD → Bool) : eqVariant a b r = all2 r a b := by
  unfold eqVariant
  by_cases hl : a.length = b.length
  · rw [if_neg (by omega), run_loop (eqVariant_l4 b r) b r (fun j => by rw [eqVariant_l4]) (fun x xs j => by rw [eqVariant_l4]; dsimp only [bnd]; generalize b.getD j default = y; cases r x y <;> simp) _ _ hl, Bool.and_true]
  · rw [all2_false hl, if_pos (by omega)]

theorem eqStruct_eq (a b : List StructD) (r : StructD → StructD → Bool) : eqStruct a b r = all2 r a b := by
  unfold eqStruct
  by_cases hl : a.length = b.length
  · rw [if_neg (by omega), run_loop (eqStruct_l4 b r) b r (fun j => by rw [eqStruct_l4]) (fun x xs j => by rw [eqStruct_l4]; dsimp only [bnd]; generalize b.getD j default = y; cases r x y <;> simp) _ _ hl, Bool.and_true]
  · rw [all2_false hl, if_pos (by omega)]

theorem eqEnum_eq (a b : List EnumD) (r : EnumD → EnumD → Bool) : eqEnum a b r = all2 r a b := by
  unfold eqEnum
  by_cases hl : a.length = b.length
  · rw [if_neg (by omega), run_loop (eqEnum_l4 b r) b r (fun j => by rw [eqEnum_l4]) (fun x xs j => by rw [eqEnum_l4]; dsimp only [bnd]; generalize b.getD j default = y; cases r x y <;> simp) _ _ hl, Bool.and_true]
  · rw [all2_false hl, if_pos (by omega)]

theorem eqFn_eq (a b : List FnD) (r : FnD → FnD → Bool) : eqFn a b r = all2 r a b := by
  unfold eqFn
  by_cases hl : a.length = b.length
  · rw [if_neg (by omega), run_loop (eqFn_l4 b r) b r (fun j => by rw [eqFn_l4]) (fun x xs j => by rw [eqFn_l4]; dsimp only [bnd]; generalize b.getD j default = y; cases r x y <;> simp) _ _ hl, Bool.and_true]
  · rw [all2_false hl, if_pos (by omega)]

theorem tSameField_iff (a b : FieldD) : tSameField a b = true ↔ a = b := by
  rw [tSameField, field_iff]
  simp only [Bool.and_eq_true, decide_eq_true_eq, tSameTy_iff]

theorem tSame_iff (a b : SourceD) : tSame a b = true ↔ SameD a b := by
  unfold tSame SameD
  rw [eqStruct_eq, eqEnum_eq, eqFn_eq]
  simp only [Bool.and_eq_true]
  rw [all2_map (f := stripSt) (fun x _ y => by
    rw [stripSt_iff, tSame_1, eqField_eq]
    simp only [Bool.and_eq_true, decide_eq_true_eq, beq_iff_eq]
    rw [all2_eq (fun u _ v => tSameField_iff u v), and_assoc])]
  rw [all2_map (f := stripEn) (fun x _ y => by
    rw [stripEn_iff, tSame_3, eqVariant_eq]
    simp only [Bool.and_eq_true, decide_eq_true_eq]
    rw [all2_eq (fun u _ v => by rw [tSame_2, variant_iff]; simp only [Bool.and_eq_true, decide_eq_true_eq, tSameTy_iff])])]
  rw [all2_map (f := stripFn) (fun x _ y => by
    rw [stripFn_iff, tSame_4, eqField_eq, eqStmt_eq]
    simp only [Bool.and_eq_true, decide_eq_true_eq]
    rw [all2_eq (fun u _ v => tSameField_iff u v), all2_map (fun u _ v => tSameStmt_iff u v), and_assoc])]
  rw [and_assoc]

end Go.Proofs.Tryz
end
