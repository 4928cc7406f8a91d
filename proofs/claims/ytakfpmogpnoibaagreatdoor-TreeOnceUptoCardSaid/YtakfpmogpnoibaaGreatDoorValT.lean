/- Contracts of the program's functions over names, types, places, operands, and what is set. -/
import Derived.Test.YtakfpmogpnoibaaGreatDoorNamA
import Derived.Test.YtakfpmogpnoibaaGreatDoorSamT
import Derived.Test.YtakfpmogpnoibaaGreatDoorMachE
set_option linter.unusedVariables false
set_option linter.unusedSimpArgs false
set_option linter.constructorNameAsVariable false
section
namespace Go.Proofs.Tryz
open Go Go.AM
attribute [local simp] wpG_op wpG_nil contG_some wpG_guard guardG_v guardG_o guardG_tup gval pureOp stepG_if isPick pickG_pick pickB_b pickOK isCall step_move step_assign step_alloc step_box boxV_some step_load step_store step_binOp step_unOp step_fieldAddr faV step_indexAddr ixA_slc ixA_arr step_extract extV_tup step_nilCheck ncV_ptr ncV_rp ncV_fn ncV_mp step_build buildV step_buildSlice bsV step_index ixV_arr ixV_str step_append apB step_makeSlice msV_i step_makeFunc over step_len step_makeMap mmV step_mapUpdate step_insert muA_map muB_mp step_lookup lkA_map lkB_mp step_slice slcV_s slcV_sl slcV_ro cutB_some slObV_arr bound_none bound_some bndV_i lenB_str lenB_ro lenB_sl lenB_nil lenB_z ld_ptr ld_rp offV_ptr offV_rp idxV_ro idxV_sl unV_not unV_neg binV_int binV_str binV_eqlb binV_neqb intOp strOp St.put updL setOb St.ev toV St.lk cellsOf AM.valOf TK.agg stv fillV places TI.zero condT_true condT_false finS resL resSlot packV ren ren1 ren0 Value.cells builtinV appendV elemsOf keepT room_of wrap_in toIdx passed Function.comp_def take_len_map lenV touchOf hid tab1 tab2 tab3 tab4 tab5 tab6 tab7 tab8 tab9 tab20 tab22 tab23 tab24 tab26 tab32 tab33 tab35 tab36 tab37 tab39 tab41 tab42 tab43 tab45 tab46 tab47 tab49 tab50 tab52 tab74 tab79 tab83 tab86 tab87 tab89 tab92 tab100 tab101 tab102 tab103 tab105 tab107 tab108 tab113 tab114 tab116 tab117 tab118 tab122 tab123 tab125 tab127 tab130 tab132 tab136 tab173 tab175 tab178 tab179 tab180 tab182 tab189 tab215 tab219 tab220 tab224 tab225 tab241 tab244 tab247 tab253 tab261 tab262 tab265 tab266 armC_eq blockC_eq bodyC_eq enumC_eq fieldC_eq fnC_eq inC_eq localC_eq mirBodyC_eq operC_eq placeC_eq rvC_eq sourceC_eq spotC_eq stepC_eq stmtC_eq structC_eq tmC_eq tyC_eq useC_eq valueC_eq variantC_eq binV_eqls binV_neqs cutL_nil cutL_junk cutL_cons ren_arr ren_gone ren_unborn ren_var ren_row step_convert cvV_i cvV_sl cvV_s cvK_slc cvE_u8 bytesOf bor1 bor2 bor3 bor4
set_option linter.unusedSimpArgs false
set_option linter.unusedVariables false
set_option maxRecDepth 10000
set_option maxHeartbeats 40000000
noncomputable section

def tGreat (p0 : List UInt8) : Bool :=
 ((tUpper p0) && (!(tReserved p0)))
theorem w_tGreat (p0 : List UInt8)  : QC prog 58 [.s p0] [] (.b (tGreat p0)) [] := by
 refine QC.of_body tabOK func58 rfl (by kernel_rfl) ?_
 simp only [f58]
 generalize e : tGreat p0 = R
 unfold tGreat at e
 refine SR ?_
 simp (maxSteps := 2000000) -implicitDefEqProofs
 refine EV.seq ?_
 refine EV.nrm (fun _ : Unit => (⟨[J, J, .b ((tUpper p0) && (!(tReserved p0))), J, J, J, J, J, J, J], []⟩ : St)) ?_ ?_
 ·skip
  cases k2 : (tUpper p0)
  ·skip
   have kk2 := k2
   try simp at kk2
   refine RG ?_
   simp (maxSteps := 2000000) -implicitDefEqProofs +contextual [k2, kk2]
   refine callG_fun (w_tUpper p0) ?_ ?_
   ·first | (simp; done) | (simp [k2, kk2]; done)
   simp (maxSteps := 2000000) -implicitDefEqProofs +contextual [k2, kk2]
   refine ⟨(), ?_⟩
   try dsimp only
   refine Sub.cutF 0 (by simp) ?_ ?_ <;> simp [List.range_succ, toIdx_range, passed, k2, kk2]
  have kk2 := k2
  try simp at kk2
  refine RG ?_
  simp (maxSteps := 2000000) -implicitDefEqProofs +contextual [k2, kk2]
  refine callG_fun (w_tUpper p0) ?_ ?_
  ·first | (simp; done) | (simp [k2, kk2]; done)
  simp (maxSteps := 2000000) -implicitDefEqProofs +contextual [k2, kk2]
  refine callG_fun (w_tReserved p0) ?_ ?_
  ·first | (simp; done) | (simp [k2, kk2]; done)
  simp (maxSteps := 2000000) -implicitDefEqProofs +contextual [k2, kk2]
  refine ⟨(), ?_⟩
  try dsimp only
  refine Sub.cutF 0 (by simp) ?_ ?_ <;> simp [List.range_succ, toIdx_range, passed, k2, kk2]
 rintro _
 simp only [KN1, KN2, KN3, KN4]
 refine EV.ret ?_
 simp only [KR1, KR2, KR3, KR4]
 subst e
 refine Fin.pure0 ?_
 first | (simp; done) | (simp <;> grind)

def tSmall (p0 : List UInt8) : Bool :=
 (((tWord p0) && (!(tUpper p0))) && (!(tReserved p0)))
theorem w_tSmall (p0 : List UInt8)  : QC prog 65 [.s p0] [] (.b (tSmall p0)) [] := by
 refine QC.of_body tabOK func65 rfl (by kernel_rfl) ?_
 simp only [f65]
 generalize e : tSmall p0 = R
 unfold tSmall at e
 refine SR ?_
 simp (maxSteps := 2000000) -implicitDefEqProofs
 refine EV.seq ?_
 refine EV.nrm (fun _ : Unit => (⟨[J, J, .b (((tWord p0) && (!(tUpper p0))) && (!(tReserved p0))), J, J, J, J, J, J, J, J, J, J, J, J], []⟩ : St)) ?_ ?_
 ·skip
  cases k2 : (tWord p0)
  ·skip
   have kk2 := k2
   try simp at kk2
   refine RG ?_
   simp (maxSteps := 2000000) -implicitDefEqProofs +contextual [k2, kk2]
   refine callG_fun (w_tWord p0) ?_ ?_
   ·first | (simp; done) | (simp [k2, kk2]; done)
   simp (maxSteps := 2000000) -implicitDefEqProofs +contextual [k2, kk2]
   refine ⟨(), ?_⟩
   try dsimp only
   refine Sub.cutF 0 (by simp) ?_ ?_ <;> simp [List.range_succ, toIdx_range, passed, k2, kk2]
  have kk2 := k2
  try simp at kk2
  cases k3 : (tUpper p0)
  ·skip
   have kk3 := k3
   try simp at kk3
   refine RG ?_
   simp (maxSteps := 2000000) -implicitDefEqProofs +contextual [k2, kk2, k3, kk3]
   refine callG_fun (w_tWord p0) ?_ ?_
   ·first | (simp; done) | (simp [k2, kk2, k3, kk3]; done)
   simp (maxSteps := 2000000) -implicitDefEqProofs +contextual [k2, kk2, k3, kk3]
   refine callG_fun (w_tUpper p0) ?_ ?_
   ·first | (simp; done) | (simp [k2, kk2, k3, kk3]; done)
   simp (maxSteps := 2000000) -implicitDefEqProofs +contextual [k2, kk2, k3, kk3]
   refine callG_fun (w_tReserved p0) ?_ ?_
   ·first | (simp; done) | (simp [k2, kk2, k3, kk3]; done)
   simp (maxSteps := 2000000) -implicitDefEqProofs +contextual [k2, kk2, k3, kk3]
   refine ⟨(), ?_⟩
   try dsimp only
   refine Sub.cutF 0 (by simp) ?_ ?_ <;> simp [List.range_succ, toIdx_range, passed, k2, kk2, k3, kk3]
  have kk3 := k3
  try simp at kk3
  refine RG ?_
  simp (maxSteps := 2000000) -implicitDefEqProofs +contextual [k2, kk2, k3, kk3]
  refine callG_fun (w_tWord p0) ?_ ?_
  ·first | (simp; done) | (simp [k2, kk2, k3, kk3]; done)
  simp (maxSteps := 2000000) -implicitDefEqProofs +contextual [k2, kk2, k3, kk3]
  refine callG_fun (w_tUpper p0) ?_ ?_
  ·first | (simp; done) | (simp [k2, kk2, k3, kk3]; done)
  simp (maxSteps := 2000000) -implicitDefEqProofs +contextual [k2, kk2, k3, kk3]
  refine ⟨(), ?_⟩
  try dsimp only
  refine Sub.cutF 0 (by simp) ?_ ?_ <;> simp [List.range_succ, toIdx_range, passed, k2, kk2, k3, kk3]
 rintro _
 simp only [KN1, KN2, KN3, KN4]
 refine EV.ret ?_
 simp only [KR1, KR2, KR3, KR4]
 subst e
 refine Fin.pure0 ?_
 first | (simp; done) | (simp <;> grind)

def tValidTy_b (r_tValidTy : TyD → Int → Bool) (p0 : TyD) (p1 : Int) : Bool :=
 (if p0.k = 1 then ((decide (p0.name = ([] : List UInt8))) && (decide ((p0.l.length : Int) = 0))) else (if p0.k = 2 then ((tGreat p0.name) && (decide ((p0.l.length : Int) = 0))) else (if p0.k = 7 then ((tSmall p0.name) && (decide ((p0.l.length : Int) = 0))) else (if p0.k = 4 then (bnd (p0.l.getD 0 default) fun (y11_16 : TyD) => ((((decide (p1 < 60)) && (decide (p0.name = ([] : List UInt8)))) && (decide ((p0.l.length : Int) = 1))) && (r_tValidTy y11_16 (IntKind.i64.wrap (p1 + 1))))) else (if p0.k = 5 then (bnd (p0.l.getD 0 default) fun (y11_16 : TyD) => ((((decide (p1 < 60)) && (decide (p0.name = ([] : List UInt8)))) && (decide ((p0.l.length : Int) = 1))) && (r_tValidTy y11_16 (IntKind.i64.wrap (p1 + 1))))) else (if p0.k = 6 then (bnd (p0.l.getD 0 default) fun (y11_16 : TyD) => ((((decide (p1 < 60)) && (decide (p0.name = ([] : List UInt8)))) && (decide ((p0.l.length : Int) = 1))) && (r_tValidTy y11_16 (IntKind.i64.wrap (p1 + 1))))) else false))))))
theorem w_tValidTy_b (r_tValidTy : TyD → Int → Bool) (p0 : TyD) (p1 : Int)  (D : Nat) (H_tValidTy : ∀ (u0 : TyD) (u1 : Int), SizeOf.sizeOf u0 < D → QC prog 114 [.agg [.i .i64 u0.k, .s u0.name, .ro 3 (u0.l.map tyC)], .i .i64 u1] [] (.b (r_tValidTy u0 u1)) []) (hD : SizeOf.sizeOf p0 ≤ D) : QC prog 114 [.agg [.i .i64 p0.k, .s p0.name, .ro 3 (p0.l.map tyC)], .i .i64 p1] [] (.b (tValidTy_b r_tValidTy p0 p1)) [] := by
 refine QC.of_body tabOK func114 rfl (by kernel_rfl) ?_
 simp only [f114]
 generalize e : tValidTy_b r_tValidTy p0 p1 = R
 unfold tValidTy_b at e
 refine SR ?_
 simp (maxSteps := 2000000) -implicitDefEqProofs
 refine EV.seq (SR ?_)
 simp (maxSteps := 2000000) -implicitDefEqProofs
 refine EV.block (SR ?_)
 simp (maxSteps := 2000000) -implicitDefEqProofs
 refine EV.condT ?_
 simp -implicitDefEqProofs
 refine condT_intro (fun k1 => ?_) (fun k1 => ?_)
 ·try simp at k1
  obtain ⟨f1, e⟩ := PO e k1
  try simp at f1
  refine SR ?_
  simp (maxSteps := 2000000) -implicitDefEqProofs +contextual
  refine EV.ret ?_
  simp only [KR1, KR2, KR3, KR4]
  subst e
  refine Fin.pure0 ?_
  first | (simp; done) | (simp <;> grind)
 try simp at k1
 obtain ⟨f1, e⟩ := NO e k1
 try simp at f1
 refine SR ?_
 simp (maxSteps := 2000000) -implicitDefEqProofs
 refine EV.condT ?_
 simp -implicitDefEqProofs
 refine condT_intro (fun k2 => ?_) (fun k2 => ?_)
 ·try simp at k2
  obtain ⟨f2, e⟩ := PO e k2
  try simp at f2
  refine SR ?_
  simp (maxSteps := 2000000) -implicitDefEqProofs +contextual
  refine callG_fun (w_tGreat p0.name) ?_ ?_
  ·simp
  simp (maxSteps := 2000000) -implicitDefEqProofs +contextual
  refine EV.ret ?_
  simp only [KR1, KR2, KR3, KR4]
  subst e
  refine Fin.pure0 ?_
  first | (simp; done) | (simp <;> grind)
 try simp at k2
 obtain ⟨f2, e⟩ := NO e k2
 try simp at f2
 refine SR ?_
 simp (maxSteps := 2000000) -implicitDefEqProofs
 refine EV.condT ?_
 simp -implicitDefEqProofs
 refine condT_intro (fun k3 => ?_) (fun k3 => ?_)
 ·try simp at k3
  obtain ⟨f3, e⟩ := PO e k3
  try simp at f3
  refine SR ?_
  simp (maxSteps := 2000000) -implicitDefEqProofs +contextual
  refine callG_fun (w_tSmall p0.name) ?_ ?_
  ·simp
  simp (maxSteps := 2000000) -implicitDefEqProofs +contextual
  refine EV.ret ?_
  simp only [KR1, KR2, KR3, KR4]
  subst e
  refine Fin.pure0 ?_
  first | (simp; done) | (simp <;> grind)
 try simp at k3
 obtain ⟨f3, e⟩ := NO e k3
 try simp at f3
 refine EV.seq (SR ?_)
 simp (maxSteps := 2000000) -implicitDefEqProofs
 refine EV.condT ?_
 simp -implicitDefEqProofs
 refine condT_intro (fun k4 => ?_) (fun k4 => ?_)
 ·try simp at k4
  obtain ⟨f4, e⟩ := PO e k4
  try simp at f4
  refine EV.skip ?_
  simp only [KN1, KN2, KN3]
  refine EV.condT ?_
  simp -implicitDefEqProofs
  refine EV.seq ?_
  obtain ⟨y11_16, gy11_16⟩ : ∃ z, (p0.l.getD 0 default) = z := ⟨_, rfl⟩
  replace e := bnd_on e gy11_16
  try dsimp only at e
  refine EV.nrm (fun _ : Unit => (⟨[J, J, J, J, .b ((((decide (p1 < 60)) && (decide (p0.name = ([] : List UInt8)))) && (decide ((p0.l.length : Int) = 1))) && (r_tValidTy y11_16 (IntKind.i64.wrap (p1 + 1)))), J, J, J, J, J, J, J, J, J, J, J, J, J, J, J, J, J, J, J, J, J, J, J, J, J, J, J, J, J, J, J, J, J, J, J, J, J, J, J, J, J, J, J, J, J, J, J, J, J, J, J, J, J, J, J, J, J, J, J, J, J], []⟩ : St)) ?_ ?_
  ·skip
   by_cases k6 : p1 < 60
   ·skip
    have kk6 := k6
    try simp at kk6
    by_cases k7 : p0.name = ([] : List UInt8)
    ·skip
     have kk7 := k7
     try simp at kk7
     by_cases k8 : (p0.l.length : Int) = 1
     ·skip
      have kk8 := k8
      try simp at kk8
      have b9 : 0 ≤ 0 ∧ 0 < (p0.l.length : Int) := by omega
      have c9 : 0 < p0.l.length := by omega
      have hy11_16 : p0.l[0] = y11_16 := by rw [← gy11_16, List.getD_eq_getElem?_getD, List.getElem?_eq_getElem c9]; rfl
      have my11_16 : y11_16 ∈ p0.l := by rw [← hy11_16]; exact List.getElem_mem _
      have zzy11_16 := List.sizeOf_lt_of_mem my11_16
      have := sz_TyD_l p0
      refine RG ?_
      simp (maxSteps := 2000000) -implicitDefEqProofs +contextual [k6, kk6, k7, kk7, k8, kk8, b9, c9, hy11_16]
      refine callG_fun (H_tValidTy y11_16 (IntKind.i64.wrap (p1 + 1)) (by first | omega | (simp at *; omega))) ?_ ?_
      ·first | (simp; done) | (simp [k6, kk6, k7, kk7, k8, kk8, b9, c9, hy11_16]; done)
      simp (maxSteps := 2000000) -implicitDefEqProofs +contextual [k6, kk6, k7, kk7, k8, kk8, b9, c9, hy11_16]
      refine ⟨(), ?_⟩
      try dsimp only
      refine Sub.cutF 0 (by simp) ?_ ?_ <;> simp [List.range_succ, toIdx_range, passed, k6, kk6, k7, kk7, k8, kk8, b9, c9, hy11_16]
     have kk8 := k8
     try simp at kk8
     refine RG ?_
     simp (maxSteps := 2000000) -implicitDefEqProofs +contextual [k6, kk6, k7, kk7, k8, kk8]
     refine ⟨(), ?_⟩
     try dsimp only
     refine Sub.cutF 0 (by simp) ?_ ?_ <;> simp [List.range_succ, toIdx_range, passed, k6, kk6, k7, kk7, k8, kk8]
    have kk7 := k7
    try simp at kk7
    refine RG ?_
    simp (maxSteps := 2000000) -implicitDefEqProofs +contextual [k6, kk6, k7, kk7]
    refine ⟨(), ?_⟩
    try dsimp only
    refine Sub.cutF 0 (by simp) ?_ ?_ <;> simp [List.range_succ, toIdx_range, passed, k6, kk6, k7, kk7]
   have kk6 := k6
   try simp at kk6
   refine RG ?_
   simp (maxSteps := 2000000) -implicitDefEqProofs +contextual [k6, kk6]
   refine ⟨(), ?_⟩
   try dsimp only
   refine Sub.cutF 0 (by simp) ?_ ?_ <;> simp [List.range_succ, toIdx_range, passed, k6, kk6]
  rintro _
  simp only [KN1, KN2, KN3, KN4]
  refine EV.ret ?_
  simp only [KR1, KR2, KR3, KR4]
  subst e
  refine Fin.pure0 ?_
  first | (simp; done) | (simp <;> grind)
 try simp at k4
 obtain ⟨f4, e⟩ := NO e k4
 try simp at f4
 refine SR ?_
 simp (maxSteps := 2000000) -implicitDefEqProofs
 refine EV.condT ?_
 simp -implicitDefEqProofs
 refine condT_intro (fun k10 => ?_) (fun k10 => ?_)
 ·try simp at k10
  obtain ⟨f10, e⟩ := PO e k10
  try simp at f10
  refine EV.skip ?_
  simp only [KN1, KN2, KN3]
  refine EV.condT ?_
  simp -implicitDefEqProofs
  refine EV.seq ?_
  obtain ⟨y11_16, gy11_16⟩ : ∃ z, (p0.l.getD 0 default) = z := ⟨_, rfl⟩
  replace e := bnd_on e gy11_16
  try dsimp only at e
  refine EV.nrm (fun _ : Unit => (⟨[J, J, J, J, .b ((((decide (p1 < 60)) && (decide (p0.name = ([] : List UInt8)))) && (decide ((p0.l.length : Int) = 1))) && (r_tValidTy y11_16 (IntKind.i64.wrap (p1 + 1)))), J, J, J, J, J, J, J, J, J, J, J, J, J, J, J, J, J, J, J, J, J, J, J, J, J, J, J, J, J, J, J, J, J, J, J, J, J, J, J, J, J, J, J, J, J, J, J, J, J, J, J, J, J, J, J, J, J, J, J, J, J], []⟩ : St)) ?_ ?_
  ·skip
   by_cases k12 : p1 < 60
   ·skip
    have kk12 := k12
    try simp at kk12
    by_cases k13 : p0.name = ([] : List UInt8)
    ·skip
     have kk13 := k13
     try simp at kk13
     by_cases k14 : (p0.l.length : Int) = 1
     ·skip
      have kk14 := k14
      try simp at kk14
      have b15 : 0 ≤ 0 ∧ 0 < (p0.l.length : Int) := by omega
      have c15 : 0 < p0.l.length := by omega
      have hy11_16 : p0.l[0] = y11_16 := by rw [← gy11_16, List.getD_eq_getElem?_getD, List.getElem?_eq_getElem c15]; rfl
      have my11_16 : y11_16 ∈ p0.l := by rw [← hy11_16]; exact List.getElem_mem _
      have zzy11_16 := List.sizeOf_lt_of_mem my11_16
      have := sz_TyD_l p0
      refine RG ?_
      simp (maxSteps := 2000000) -implicitDefEqProofs +contextual [k12, kk12, k13, kk13, k14, kk14, b15, c15, hy11_16]
      refine callG_fun (H_tValidTy y11_16 (IntKind.i64.wrap (p1 + 1)) (by first | omega | (simp at *; omega))) ?_ ?_
      ·first | (simp; done) | (simp [k12, kk12, k13, kk13, k14, kk14, b15, c15, hy11_16]; done)
      simp (maxSteps := 2000000) -implicitDefEqProofs +contextual [k12, kk12, k13, kk13, k14, kk14, b15, c15, hy11_16]
      refine ⟨(), ?_⟩
      try dsimp only
      refine Sub.cutF 0 (by simp) ?_ ?_ <;> simp [List.range_succ, toIdx_range, passed, k12, kk12, k13, kk13, k14, kk14, b15, c15, hy11_16]
     have kk14 := k14
     try simp at kk14
     refine RG ?_
     simp (maxSteps := 2000000) -implicitDefEqProofs +contextual [k12, kk12, k13, kk13, k14, kk14]
     refine ⟨(), ?_⟩
     try dsimp only
     refine Sub.cutF 0 (by simp) ?_ ?_ <;> simp [List.range_succ, toIdx_range, passed, k12, kk12, k13, kk13, k14, kk14]
    have kk13 := k13
    try simp at kk13
    refine RG ?_
    simp (maxSteps := 2000000) -implicitDefEqProofs +contextual [k12, kk12, k13, kk13]
    refine ⟨(), ?_⟩
    try dsimp only
    refine Sub.cutF 0 (by simp) ?_ ?_ <;> simp [List.range_succ, toIdx_range, passed, k12, kk12, k13, kk13]
   have kk12 := k12
   try simp at kk12
   refine RG ?_
   simp (maxSteps := 2000000) -implicitDefEqProofs +contextual [k12, kk12]
   refine ⟨(), ?_⟩
   try dsimp only
   refine Sub.cutF 0 (by simp) ?_ ?_ <;> simp [List.range_succ, toIdx_range, passed, k12, kk12]
  rintro _
  simp only [KN1, KN2, KN3, KN4]
  refine EV.ret ?_
  simp only [KR1, KR2, KR3, KR4]
  subst e
  refine Fin.pure0 ?_
  first | (simp; done) | (simp <;> grind)
 try simp at k10
 obtain ⟨f10, e⟩ := NO e k10
 try simp at f10
 refine RG ?_
 simp (maxSteps := 2000000) -implicitDefEqProofs
 refine EV.condT ?_
 simp -implicitDefEqProofs
 refine condT_intro (fun k16 => ?_) (fun k16 => ?_)
 ·try simp at k16
  obtain ⟨f16, e⟩ := PO e k16
  try simp at f16
  refine EV.seq ?_
  obtain ⟨y11_16, gy11_16⟩ : ∃ z, (p0.l.getD 0 default) = z := ⟨_, rfl⟩
  replace e := bnd_on e gy11_16
  try dsimp only at e
  refine EV.nrm (fun _ : Unit => (⟨[J, J, J, J, .b ((((decide (p1 < 60)) && (decide (p0.name = ([] : List UInt8)))) && (decide ((p0.l.length : Int) = 1))) && (r_tValidTy y11_16 (IntKind.i64.wrap (p1 + 1)))), J, J, J, J, J, J, J, J, J, J, J, J, J, J, J, J, J, J, J, J, J, J, J, J, J, J, J, J, J, J, J, J, J, J, J, J, J, J, J, J, J, J, J, J, J, J, J, J, J, J, J, J, J, J, J, J, J, J, J, J, J], []⟩ : St)) ?_ ?_
  ·skip
   by_cases k18 : p1 < 60
   ·skip
    have kk18 := k18
    try simp at kk18
    by_cases k19 : p0.name = ([] : List UInt8)
    ·skip
     have kk19 := k19
     try simp at kk19
     by_cases k20 : (p0.l.length : Int) = 1
     ·skip
      have kk20 := k20
      try simp at kk20
      have b21 : 0 ≤ 0 ∧ 0 < (p0.l.length : Int) := by omega
      have c21 : 0 < p0.l.length := by omega
      have hy11_16 : p0.l[0] = y11_16 := by rw [← gy11_16, List.getD_eq_getElem?_getD, List.getElem?_eq_getElem c21]; rfl
      have my11_16 : y11_16 ∈ p0.l := by rw [← hy11_16]; exact List.getElem_mem _
      have zzy11_16 := List.sizeOf_lt_of_mem my11_16
      have := sz_TyD_l p0
      refine RG ?_
      simp (maxSteps := 2000000) -implicitDefEqProofs +contextual [k18, kk18, k19, kk19, k20, kk20, b21, c21, hy11_16]
      refine callG_fun (H_tValidTy y11_16 (IntKind.i64.wrap (p1 + 1)) (by first | omega | (simp at *; omega))) ?_ ?_
      ·first | (simp; done) | (simp [k18, kk18, k19, kk19, k20, kk20, b21, c21, hy11_16]; done)
      simp (maxSteps := 2000000) -implicitDefEqProofs +contextual [k18, kk18, k19, kk19, k20, kk20, b21, c21, hy11_16]
      refine ⟨(), ?_⟩
      try dsimp only
      refine Sub.cutF 0 (by simp) ?_ ?_ <;> simp [List.range_succ, toIdx_range, passed, k18, kk18, k19, kk19, k20, kk20, b21, c21, hy11_16]
     have kk20 := k20
     try simp at kk20
     refine RG ?_
     simp (maxSteps := 2000000) -implicitDefEqProofs +contextual [k18, kk18, k19, kk19, k20, kk20]
     refine ⟨(), ?_⟩
     try dsimp only
     refine Sub.cutF 0 (by simp) ?_ ?_ <;> simp [List.range_succ, toIdx_range, passed, k18, kk18, k19, kk19, k20, kk20]
    have kk19 := k19
    try simp at kk19
    refine RG ?_
    simp (maxSteps := 2000000) -implicitDefEqProofs +contextual [k18, kk18, k19, kk19]
    refine ⟨(), ?_⟩
    try dsimp only
    refine Sub.cutF 0 (by simp) ?_ ?_ <;> simp [List.range_succ, toIdx_range, passed, k18, kk18, k19, kk19]
   have kk18 := k18
   try simp at kk18
   refine RG ?_
   simp (maxSteps := 2000000) -implicitDefEqProofs +contextual [k18, kk18]
   refine ⟨(), ?_⟩
   try dsimp only
   refine Sub.cutF 0 (by simp) ?_ ?_ <;> simp [List.range_succ, toIdx_range, passed, k18, kk18]
  rintro _
  simp only [KN1, KN2, KN3, KN4]
  refine EV.ret ?_
  simp only [KR1, KR2, KR3, KR4]
  subst e
  refine Fin.pure0 ?_
  first | (simp; done) | (simp <;> grind)
 try simp at k16
 obtain ⟨f16, e⟩ := NO e k16
 try simp at f16
 refine EV.skip ?_
 simp only [KN1, KN2, KN3]
 refine SR ?_
 simp (maxSteps := 2000000) -implicitDefEqProofs
 refine EV.ret ?_
 simp only [KR1, KR2, KR3, KR4]
 subst e
 refine Fin.pure0 ?_
 first | (simp; done) | (simp <;> grind)

def tValidTy_f : Nat → TyD → Int → Bool
 | 0, _, _ => default
 | k + 1, p0, p1 => tValidTy_b (tValidTy_f k) p0 p1
def tValidTy (p0 : TyD) (p1 : Int) : Bool := tValidTy_f (SizeOf.sizeOf p0 + 1) p0 p1
theorem w_tValidTy_f : ∀ k : Nat, (∀ (p0 : TyD) (p1 : Int), SizeOf.sizeOf p0 < k → QC prog 114 [.agg [.i .i64 p0.k, .s p0.name, .ro 3 (p0.l.map tyC)], .i .i64 p1] [] (.b (tValidTy_f k p0 p1)) [])
 | 0 => by refine (fun _ _ h => absurd h (Nat.not_lt_zero _))
 | k + 1 => by refine (fun p0 p1 h => by rw [tValidTy_f]; exact w_tValidTy_b (tValidTy_f k) p0 p1 k (w_tValidTy_f k) (by omega))
theorem w_tValidTy (p0 : TyD) (p1 : Int) : QC prog 114 [.agg [.i .i64 p0.k, .s p0.name, .ro 3 (p0.l.map tyC)], .i .i64 p1] [] (.b (tValidTy p0 p1)) [] := (w_tValidTy_f (SizeOf.sizeOf p0 + 1)) p0 p1 (Nat.lt_succ_self _)

def allStep_l2 (p1 : StepD → Bool) : List StepD → Ctl (Bool) (Unit)
 | [] => .go ()
 | x2 :: xs2 => (if ¬ ((p1 x2) = true) then .ret false else allStep_l2 p1 xs2)
def allStep (p0 : List StepD) (p1 : StepD → Bool) : Bool :=
 (Ctl.run (allStep_l2 p1 p0) fun (v2 : Unit) => true)
theorem w_allStep0 (p0 : List StepD) (p1 : StepD → Bool)  (fid1 : FuncId) (H1 : ∀ (u0 : StepD), u0 ∈ p0 → QC prog fid1 [.agg [.s u0.field]] [] (.b (p1 u0)) []) : QC prog 210 [.ro 1 (p0.map stepC), .fn fid1 []] [] (.b (allStep p0 p1)) [] := by
 refine QC.of_body tabOK func210 rfl (by kernel_rfl) ?_
 simp only [f210]
 generalize e : allStep p0 p1 = R
 unfold allStep at e
 refine SR ?_
 simp (maxSteps := 2000000) -implicitDefEqProofs
 refine EV.seq (SR ?_)
 simp (maxSteps := 2000000) -implicitDefEqProofs
 obtain ⟨z2, e2, e⟩ := run_split e
 refine EV.nrm (fun v : { v : (Unit) × (Unit) // z2 = .go v.1 } => (fun (v2 : Unit) (g2 : Unit) => (⟨[J, J, J, J, J, J, J, J, J, J, J, J, J, J, J, J, J, J], []⟩ : St)) v.1.1 v.1.2) ?_ ?_
 ·skip
  refine EV.block ?_
  refine EV.loopB (fun x : { x : Nat // x ≤ p0.length ∧ allStep_l2 p1 (p0.drop x) = z2 } => (fun (j2 : Nat) => (⟨[J, .fn fid1 [], J, J, J, J, J, .ro 1 (p0.map stepC), .i .i64 (p0.length : Int), .i .i64 (j2 : Int), J, J, J, J, J, J, J, J], []⟩ : St)) x.1) (fun x => p0.length - x.1) ⟨0, Nat.zero_le _, e2⟩ ?_ ?_
  ·skip
   try dsimp only
   try dsimp only
   refine Sub.cutF 0 (by simp) ?_ ?_ <;> simp [List.range_succ, toIdx_range, passed]
  rintro ⟨j2, hi2, e2⟩
  simp only at hi2 e2 ⊢
  refine SR ?_
  simp (maxSteps := 2000000) -implicitDefEqProofs
  refine EV.seq ?_
  refine EV.room 7 (by rfl) (fun mj2 => ?_)
  simp at mj2
  refine EV.condT ?_
  simp -implicitDefEqProofs
  refine condT_intro (fun k1 => ?_) (fun k1 => ?_)
  ·try simp at k1
   have u1 : j2 < p0.length := by omega
   obtain ⟨x2, hx2⟩ : ∃ z, p0[j2] = z := ⟨_, rfl⟩
   have mx2 : x2 ∈ p0 := by rw [← hx2]; exact List.getElem_mem _
   rw [List.drop_eq_getElem_cons u1, hx2, allStep_l2] at e2
   refine EV.skip ?_
   simp only [KN1, KN2, KN3]
   refine EV.seq (EV.block (SR ?_))
   simp (maxSteps := 2000000) -implicitDefEqProofs [k1, u1, hx2]
   refine SR ?_
   simp (maxSteps := 2000000) -implicitDefEqProofs [k1, u1, hx2]
   refine callG_own [] rfl (H1 x2 (by assumption)) ?_ ?_ ?_ ?_ ?_ ?_
   ·simp
   ·simp
   ·simp
   ·simp
   ·simp
   simp (maxSteps := 2000000) -implicitDefEqProofs [k1, u1, hx2, keys, callUpd, List.range_succ]
   refine EV.condT ?_
   simp -implicitDefEqProofs [k1, u1, hx2]
   refine condT_intro (fun k2 => ?_) (fun k2 => ?_)
   ·try simp at k2
    obtain ⟨f2, e2⟩ := PO e2 k2
    try simp at f2
    refine SR ?_
    simp (maxSteps := 2000000) -implicitDefEqProofs [k1, u1, hx2]
    refine EV.ret ?_
    simp only [KR1, KR2, KR3, KR4]
    replace e := run_back e e2
    subst e
    refine Fin.pure0 ?_
    first | (simp; done) | (simp <;> grind)
   try simp at k2
   obtain ⟨f2, e2⟩ := NO e2 k2
   try simp at f2
   refine EV.skip ?_
   simp only [KN1, KN2, KN3]
   refine RG ?_
   simp (maxSteps := 2000000) -implicitDefEqProofs [k1, u1, hx2]
   have w2 : IntKind.i64.wrap ((j2 : Int) + 1) = (j2 : Int) + 1 := wrap_in _ (by omega) (by omega)
   refine ⟨⟨j2 + 1, by omega, e2⟩, by dsimp only; omega, ?_⟩
   try dsimp only
   refine Sub.cutF 0 (by simp) ?_ ?_ <;> simp [List.range_succ, toIdx_range, passed, k1, u1, hx2, w2]
  try simp at k1
  have d1 : p0.drop j2 = [] := List.drop_eq_nil_of_le (by omega)
  rw [d1, allStep_l2] at e2
  refine EV.exit ?_
  simp -implicitDefEqProofs
  refine ⟨⟨((), ()), e2.symm⟩, ?_⟩
  try dsimp only
  refine Sub.cutF 0 (by simp) ?_ ?_ <;> simp [List.range_succ, toIdx_range, passed]
 rintro ⟨⟨v2, g2⟩, e2⟩
 simp only [KN1, KN2, KN3, KN4]
 replace e := run_on e e2
 try dsimp only at e
 refine SR ?_
 simp (maxSteps := 2000000) -implicitDefEqProofs
 refine EV.ret ?_
 simp only [KR1, KR2, KR3, KR4]
 subst e
 refine Fin.pure0 ?_
 first | (simp; done) | (simp <;> grind)

def tValidPlace_1 (p0 : StepD) : Bool :=
 ((decide (p0.field = ([] : List UInt8))) || (tSmall p0.field))
theorem w_tValidPlace_1 (p0 : StepD)  : QC prog 211 [.agg [.s p0.field]] [] (.b (tValidPlace_1 p0)) [] := by
 refine QC.of_body tabOK func211 rfl (by kernel_rfl) ?_
 simp only [f211]
 generalize e : tValidPlace_1 p0 = R
 unfold tValidPlace_1 at e
 refine SR ?_
 simp (maxSteps := 2000000) -implicitDefEqProofs
 refine EV.seq ?_
 refine EV.nrm (fun _ : Unit => (⟨[J, J, .b ((decide (p0.field = ([] : List UInt8))) || (tSmall p0.field)), J, J, J, J, J, J, J, J], []⟩ : St)) ?_ ?_
 ·skip
  by_cases k2 : p0.field = ([] : List UInt8)
  ·skip
   have kk2 := k2
   try simp at kk2
   refine RG ?_
   simp (maxSteps := 2000000) -implicitDefEqProofs +contextual [k2, kk2]
   refine ⟨(), ?_⟩
   try dsimp only
   refine Sub.cutF 0 (by simp) ?_ ?_ <;> simp [List.range_succ, toIdx_range, passed, k2, kk2]
  have kk2 := k2
  try simp at kk2
  refine RG ?_
  simp (maxSteps := 2000000) -implicitDefEqProofs +contextual [k2, kk2]
  refine callG_fun (w_tSmall p0.field) ?_ ?_
  ·first | (simp; done) | (simp [k2, kk2]; done)
  simp (maxSteps := 2000000) -implicitDefEqProofs +contextual [k2, kk2]
  refine ⟨(), ?_⟩
  try dsimp only
  refine Sub.cutF 0 (by simp) ?_ ?_ <;> simp [List.range_succ, toIdx_range, passed, k2, kk2]
 rintro _
 simp only [KN1, KN2, KN3, KN4]
 refine EV.ret ?_
 simp only [KR1, KR2, KR3, KR4]
 subst e
 refine Fin.pure0 ?_
 first | (simp; done) | (simp <;> grind)

def tValidPlace (p0 : PlaceD) : Bool :=
 ((tSmall p0.name) && (allStep p0.path tValidPlace_1))
theorem w_tValidPlace (p0 : PlaceD)  : QC prog 182 [.agg [.s p0.name, .ro 1 (p0.path.map stepC)]] [] (.b (tValidPlace p0)) [] := by
 refine QC.of_body tabOK func182 rfl (by kernel_rfl) ?_
 simp only [f182]
 generalize e : tValidPlace p0 = R
 unfold tValidPlace at e
 refine SR ?_
 simp (maxSteps := 2000000) -implicitDefEqProofs
 refine EV.seq ?_
 refine EV.nrm (fun _ : Unit => (⟨[J, J, .b ((tSmall p0.name) && (allStep p0.path tValidPlace_1)), J, J, J, J, J, J, J, J], []⟩ : St)) ?_ ?_
 ·skip
  cases k2 : (tSmall p0.name)
  ·skip
   have kk2 := k2
   try simp at kk2
   refine RG ?_
   simp (maxSteps := 2000000) -implicitDefEqProofs +contextual [k2, kk2]
   refine callG_fun (w_tSmall p0.name) ?_ ?_
   ·first | (simp; done) | (simp [k2, kk2]; done)
   simp (maxSteps := 2000000) -implicitDefEqProofs +contextual [k2, kk2]
   refine ⟨(), ?_⟩
   try dsimp only
   refine Sub.cutF 0 (by simp) ?_ ?_ <;> simp [List.range_succ, toIdx_range, passed, k2, kk2]
  have kk2 := k2
  try simp at kk2
  refine RG ?_
  simp (maxSteps := 2000000) -implicitDefEqProofs +contextual [k2, kk2]
  refine callG_fun (w_tSmall p0.name) ?_ ?_
  ·first | (simp; done) | (simp [k2, kk2]; done)
  simp (maxSteps := 2000000) -implicitDefEqProofs +contextual [k2, kk2]
  refine callG_own [] rfl (w_allStep0 p0.path tValidPlace_1 211 (fun u0 h0 => w_tValidPlace_1  u0)) ?_ ?_ ?_ ?_ ?_ ?_
  ·simp
  ·simp
  ·simp
  ·simp
  ·simp
  simp (maxSteps := 2000000) -implicitDefEqProofs +contextual [k2, kk2, keys, callUpd, List.range_succ]
  refine ⟨(), ?_⟩
  try dsimp only
  refine Sub.cutF 0 (by simp) ?_ ?_ <;> simp [List.range_succ, toIdx_range, passed, k2, kk2]
 rintro _
 simp only [KN1, KN2, KN3, KN4]
 refine EV.ret ?_
 simp only [KR1, KR2, KR3, KR4]
 subst e
 refine Fin.pure0 ?_
 first | (simp; done) | (simp <;> grind)

def tValidName (p0 : PlaceD) : Bool :=
 ((decide ((p0.path.length : Int) = 0)) && (tSmall p0.name))
theorem w_tValidName (p0 : PlaceD)  : QC prog 184 [.agg [.s p0.name, .ro 1 (p0.path.map stepC)]] [] (.b (tValidName p0)) [] := by
 refine QC.of_body tabOK func184 rfl (by kernel_rfl) ?_
 simp only [f184]
 generalize e : tValidName p0 = R
 unfold tValidName at e
 refine SR ?_
 simp (maxSteps := 2000000) -implicitDefEqProofs
 refine EV.seq ?_
 refine EV.nrm (fun _ : Unit => (⟨[J, J, .b ((decide ((p0.path.length : Int) = 0)) && (tSmall p0.name)), J, J, J, J, J, J, J, J, J], []⟩ : St)) ?_ ?_
 ·skip
  by_cases k2 : (p0.path.length : Int) = 0
  ·skip
   have kk2 := k2
   try simp at kk2
   refine RG ?_
   simp (maxSteps := 2000000) -implicitDefEqProofs +contextual [k2, kk2]
   refine callG_fun (w_tSmall p0.name) ?_ ?_
   ·first | (simp; done) | (simp [k2, kk2]; done)
   simp (maxSteps := 2000000) -implicitDefEqProofs +contextual [k2, kk2]
   refine ⟨(), ?_⟩
   try dsimp only
   refine Sub.cutF 0 (by simp) ?_ ?_ <;> simp [List.range_succ, toIdx_range, passed, k2, kk2]
  have kk2 := k2
  try simp at kk2
  refine RG ?_
  simp (maxSteps := 2000000) -implicitDefEqProofs +contextual [k2, kk2]
  refine ⟨(), ?_⟩
  try dsimp only
  refine Sub.cutF 0 (by simp) ?_ ?_ <;> simp [List.range_succ, toIdx_range, passed, k2, kk2]
 rintro _
 simp only [KN1, KN2, KN3, KN4]
 refine EV.ret ?_
 simp only [KR1, KR2, KR3, KR4]
 subst e
 refine Fin.pure0 ?_
 first | (simp; done) | (simp <;> grind)

def tValidOper (p0 : OperD) : Bool :=
 (if p0.num = true then ((!(decide (p0.n = (-9223372036854775808)))) && (tSamePlace p0.p (PlaceD.mk ([] : List UInt8) ([])))) else ((decide (p0.n = 0)) && (tValidPlace p0.p)))
theorem w_tValidOper (p0 : OperD)  : QC prog 183 [.agg [.b p0.num, .i .i64 p0.n, .s p0.p.name, .ro 1 (p0.p.path.map stepC)]] [] (.b (tValidOper p0)) [] := by
 refine QC.of_body tabOK func183 rfl (by kernel_rfl) ?_
 simp only [f183]
 generalize e : tValidOper p0 = R
 unfold tValidOper at e
 refine SR ?_
 simp (maxSteps := 2000000) -implicitDefEqProofs
 refine EV.seq (SR ?_)
 simp (maxSteps := 2000000) -implicitDefEqProofs
 refine EV.condT ?_
 simp -implicitDefEqProofs
 refine condT_intro (fun k1 => ?_) (fun k1 => ?_)
 ·try simp at k1
  obtain ⟨f1, e⟩ := PO e k1
  try simp at f1
  refine EV.seq ?_
  refine EV.nrm (fun _ : Unit => (⟨[J, J, .b ((!(decide (p0.n = (-9223372036854775808)))) && (tSamePlace p0.p (PlaceD.mk ([] : List UInt8) ([])))), J, J, J, J, J, J, J, J, J, J, J, J, J, J, J, J, J, J, J], []⟩ : St)) ?_ ?_
  ·skip
   by_cases k3 : p0.n = (-9223372036854775808)
   ·skip
    have kk3 := k3
    try simp at kk3
    refine RG ?_
    simp (maxSteps := 2000000) -implicitDefEqProofs +contextual [k3, kk3]
    refine ⟨(), ?_⟩
    try dsimp only
    refine Sub.cutF 0 (by simp) ?_ ?_ <;> simp [List.range_succ, toIdx_range, passed, k3, kk3]
   have kk3 := k3
   try simp at kk3
   refine RG ?_
   simp (maxSteps := 2000000) -implicitDefEqProofs +contextual [k3, kk3]
   refine callG_data [] (w_tSamePlace p0.p (PlaceD.mk ([] : List UInt8) ([]))) ?_ ?_ ?_
   ·simp [allP, allR, c0, ld1, ld0, cvOb, Pu, take_len_map, List.getD, List.range_succ]
   ·first | trivial | simp [nr, nr1, nr0]
   simp (maxSteps := 2000000) -implicitDefEqProofs +contextual [k3, kk3]
   refine ⟨(), ?_⟩
   try dsimp only
   refine Sub.cutF 0 (by simp) ?_ ?_ <;> simp [List.range_succ, toIdx_range, passed, k3, kk3]
  rintro _
  simp only [KN1, KN2, KN3, KN4]
  refine EV.ret ?_
  simp only [KR1, KR2, KR3, KR4]
  subst e
  refine Fin.pure0 ?_
  first | (simp; done) | (simp <;> grind)
 try simp at k1
 obtain ⟨f1, e⟩ := NO e k1
 try simp at f1
 refine EV.skip ?_
 simp only [KN1, KN2, KN3]
 refine EV.seq ?_
 refine EV.nrm (fun _ : Unit => (⟨[J, J, .b ((decide (p0.n = 0)) && (tValidPlace p0.p)), J, J, J, J, J, J, J, J, J, J, J, J, J, J, J, J, J, J, J], []⟩ : St)) ?_ ?_
 ·skip
  by_cases k5 : p0.n = 0
  ·skip
   have kk5 := k5
   try simp at kk5
   refine RG ?_
   simp (maxSteps := 2000000) -implicitDefEqProofs +contextual [k5, kk5]
   refine callG_fun (w_tValidPlace p0.p) ?_ ?_
   ·first | (simp; done) | (simp [k5, kk5]; done)
   simp (maxSteps := 2000000) -implicitDefEqProofs +contextual [k5, kk5]
   refine ⟨(), ?_⟩
   try dsimp only
   refine Sub.cutF 0 (by simp) ?_ ?_ <;> simp [List.range_succ, toIdx_range, passed, k5, kk5]
  have kk5 := k5
  try simp at kk5
  refine RG ?_
  simp (maxSteps := 2000000) -implicitDefEqProofs +contextual [k5, kk5]
  refine ⟨(), ?_⟩
  try dsimp only
  refine Sub.cutF 0 (by simp) ?_ ?_ <;> simp [List.range_succ, toIdx_range, passed, k5, kk5]
 rintro _
 simp only [KN1, KN2, KN3, KN4]
 refine EV.ret ?_
 simp only [KR1, KR2, KR3, KR4]
 subst e
 refine Fin.pure0 ?_
 first | (simp; done) | (simp <;> grind)

def allOper_l2 (p1 : OperD → Bool) : List OperD → Ctl (Bool) (Unit)
 | [] => .go ()
 | x2 :: xs2 => (if ¬ ((p1 x2) = true) then .ret false else allOper_l2 p1 xs2)
def allOper (p0 : List OperD) (p1 : OperD → Bool) : Bool :=
 (Ctl.run (allOper_l2 p1 p0) fun (v2 : Unit) => true)
theorem w_allOper0 (p0 : List OperD) (p1 : OperD → Bool)  (fid1 : FuncId) (H1 : ∀ (u0 : OperD), u0 ∈ p0 → QC prog fid1 [.agg [.b u0.num, .i .i64 u0.n, .s u0.p.name, .ro 1 (u0.p.path.map stepC)]] [] (.b (p1 u0)) []) : QC prog 209 [.ro 4 (p0.map operC), .fn fid1 []] [] (.b (allOper p0 p1)) [] := by
 refine QC.of_body tabOK func209 rfl (by kernel_rfl) ?_
 simp only [f209]
 generalize e : allOper p0 p1 = R
 unfold allOper at e
 refine SR ?_
 simp (maxSteps := 2000000) -implicitDefEqProofs
 refine EV.seq (SR ?_)
 simp (maxSteps := 2000000) -implicitDefEqProofs
 obtain ⟨z2, e2, e⟩ := run_split e
 refine EV.nrm (fun v : { v : (Unit) × (Unit) // z2 = .go v.1 } => (fun (v2 : Unit) (g2 : Unit) => (⟨[J, J, J, J, J, J, J, J, J, J, J, J, J, J, J, J, J, J], []⟩ : St)) v.1.1 v.1.2) ?_ ?_
 ·skip
  refine EV.block ?_
  refine EV.loopB (fun x : { x : Nat // x ≤ p0.length ∧ allOper_l2 p1 (p0.drop x) = z2 } => (fun (j2 : Nat) => (⟨[J, .fn fid1 [], J, J, J, J, J, .ro 4 (p0.map operC), .i .i64 (p0.length : Int), .i .i64 (j2 : Int), J, J, J, J, J, J, J, J], []⟩ : St)) x.1) (fun x => p0.length - x.1) ⟨0, Nat.zero_le _, e2⟩ ?_ ?_
  ·skip
   try dsimp only
   try dsimp only
   refine Sub.cutF 0 (by simp) ?_ ?_ <;> simp [List.range_succ, toIdx_range, passed]
  rintro ⟨j2, hi2, e2⟩
  simp only at hi2 e2 ⊢
  refine SR ?_
  simp (maxSteps := 2000000) -implicitDefEqProofs
  refine EV.seq ?_
  refine EV.room 7 (by rfl) (fun mj2 => ?_)
  simp at mj2
  refine EV.condT ?_
  simp -implicitDefEqProofs
  refine condT_intro (fun k1 => ?_) (fun k1 => ?_)
  ·try simp at k1
   have u1 : j2 < p0.length := by omega
   obtain ⟨x2, hx2⟩ : ∃ z, p0[j2] = z := ⟨_, rfl⟩
   have mx2 : x2 ∈ p0 := by rw [← hx2]; exact List.getElem_mem _
   rw [List.drop_eq_getElem_cons u1, hx2, allOper_l2] at e2
   refine EV.skip ?_
   simp only [KN1, KN2, KN3]
   refine EV.seq (EV.block (SR ?_))
   simp (maxSteps := 2000000) -implicitDefEqProofs [k1, u1, hx2]
   refine SR ?_
   simp (maxSteps := 2000000) -implicitDefEqProofs [k1, u1, hx2]
   refine callG_own [] rfl (H1 x2 (by assumption)) ?_ ?_ ?_ ?_ ?_ ?_
   ·simp
   ·simp
   ·simp
   ·simp
   ·simp
   simp (maxSteps := 2000000) -implicitDefEqProofs [k1, u1, hx2, keys, callUpd, List.range_succ]
   refine EV.condT ?_
   simp -implicitDefEqProofs [k1, u1, hx2]
   refine condT_intro (fun k2 => ?_) (fun k2 => ?_)
   ·try simp at k2
    obtain ⟨f2, e2⟩ := PO e2 k2
    try simp at f2
    refine SR ?_
    simp (maxSteps := 2000000) -implicitDefEqProofs [k1, u1, hx2]
    refine EV.ret ?_
    simp only [KR1, KR2, KR3, KR4]
    replace e := run_back e e2
    subst e
    refine Fin.pure0 ?_
    first | (simp; done) | (simp <;> grind)
   try simp at k2
   obtain ⟨f2, e2⟩ := NO e2 k2
   try simp at f2
   refine EV.skip ?_
   simp only [KN1, KN2, KN3]
   refine RG ?_
   simp (maxSteps := 2000000) -implicitDefEqProofs [k1, u1, hx2]
   have w2 : IntKind.i64.wrap ((j2 : Int) + 1) = (j2 : Int) + 1 := wrap_in _ (by omega) (by omega)
   refine ⟨⟨j2 + 1, by omega, e2⟩, by dsimp only; omega, ?_⟩
   try dsimp only
   refine Sub.cutF 0 (by simp) ?_ ?_ <;> simp [List.range_succ, toIdx_range, passed, k1, u1, hx2, w2]
  try simp at k1
  have d1 : p0.drop j2 = [] := List.drop_eq_nil_of_le (by omega)
  rw [d1, allOper_l2] at e2
  refine EV.exit ?_
  simp -implicitDefEqProofs
  refine ⟨⟨((), ()), e2.symm⟩, ?_⟩
  try dsimp only
  refine Sub.cutF 0 (by simp) ?_ ?_ <;> simp [List.range_succ, toIdx_range, passed]
 ·skip
  rintro ⟨⟨v2, g2⟩, e2⟩
  simp only [KN1, KN2, KN3, KN4]
  replace e := run_on e e2
  try dsimp only at e
  refine SR ?_
  simp (maxSteps := 2000000) -implicitDefEqProofs
  refine EV.ret ?_
  simp only [KR1, KR2, KR3, KR4]
  subst e
  refine Fin.pure0 ?_
  first | (simp; done) | (simp <;> grind)

def tValidRv (p0 : RvD) : Bool :=
 (if ¬ ((allOper p0.ops tValidOper) = true) then false else (bnd (if p0.k = 0 then true else (if p0.k = 8 then true else (decide (p0.k = 15)))) fun (v9 : Bool) => (if v9 = true then ((((decide ((p0.ops.length : Int) = 1)) && (decide (p0.name = ([] : List UInt8)))) && (decide (p0.variant = ([] : List UInt8)))) && (tSamePlace p0.p (PlaceD.mk ([] : List UInt8) ([])))) else (bnd (if p0.k = 1 then true else (if p0.k = 2 then true else (if p0.k = 3 then true else (if p0.k = 4 then true else (decide (p0.k = 5)))))) fun (v13 : Bool) => (if v13 = true then ((((decide ((p0.ops.length : Int) = 2)) && (decide (p0.name = ([] : List UInt8)))) && (decide (p0.variant = ([] : List UInt8)))) && (tSamePlace p0.p (PlaceD.mk ([] : List UInt8) ([])))) else (bnd (if p0.k = 6 then true else (decide (p0.k = 7))) fun (v19 : Bool) => (if v19 = true then (((((decide ((p0.ops.length : Int) = 0)) && (tValidPlace p0.p)) && (decide (p0.name = ([] : List UInt8)))) && (decide (p0.variant = ([] : List UInt8)))) && (tSamePlace p0.p p0.p)) else (bnd (if p0.k = 9 then true else (if p0.k = 13 then true else (decide (p0.k = 14)))) fun (v22 : Bool) => (if v22 = true then (((((decide ((p0.ops.length : Int) = 0)) && (tValidName p0.p)) && (decide (p0.name = ([] : List UInt8)))) && (decide (p0.variant = ([] : List UInt8)))) && (tSamePlace p0.p p0.p)) else (if p0.k = 10 then ((((tGreat p0.name) && (decide (p0.name = p0.name))) && (decide (p0.variant = ([] : List UInt8)))) && (tSamePlace p0.p (PlaceD.mk ([] : List UInt8) ([])))) else (if p0.k = 11 then ((((((decide ((p0.ops.length : Int) ≤ 1)) && (tGreat p0.name)) && (tGreat p0.variant)) && (decide (p0.name = p0.name))) && (decide (p0.variant = p0.variant))) && (tSamePlace p0.p (PlaceD.mk ([] : List UInt8) ([])))) else (if p0.k = 12 then ((((tSmall p0.name) && (decide (p0.name = p0.name))) && (decide (p0.variant = ([] : List UInt8)))) && (tSamePlace p0.p (PlaceD.mk ([] : List UInt8) ([])))) else false))))))))))))
theorem w_tValidRv (p0 : RvD)  : QC prog 181 [.agg [.i .i64 p0.k, .ro 4 (p0.ops.map operC), .s p0.p.name, .ro 1 (p0.p.path.map stepC), .s p0.name, .s p0.variant]] [] (.b (tValidRv p0)) [] := by
 refine QC.of_body tabOK func181 rfl (by kernel_rfl) ?_
 simp only [f181]
 generalize e : tValidRv p0 = R
 unfold tValidRv at e
 refine SR ?_
 simp (maxSteps := 2000000) -implicitDefEqProofs
 refine EV.seq (SR ?_)
 simp (maxSteps := 2000000) -implicitDefEqProofs
 refine callG_own [] rfl (w_allOper0 p0.ops tValidOper 183 (fun u0 h0 => w_tValidOper  u0)) ?_ ?_ ?_ ?_ ?_ ?_
 ·simp
 ·simp
 ·simp
 ·simp
 ·simp
 simp (maxSteps := 2000000) -implicitDefEqProofs [keys, callUpd, List.range_succ]
 refine EV.condT ?_
 simp -implicitDefEqProofs
 refine condT_intro (fun k1 => ?_) (fun k1 => ?_)
 ·as_aux_lemma =>
  try simp at k1
  obtain ⟨f1, e⟩ := PO e k1
  try simp at f1
  refine SR ?_
  simp (maxSteps := 2000000) -implicitDefEqProofs
  refine EV.ret ?_
  simp only [KR1, KR2, KR3, KR4]
  subst e
  refine Fin.pure0 ?_
  first | (simp; done) | (simp; done) | (simp <;> grind)
 ·as_aux_lemma =>
  try simp at k1
  obtain ⟨f1, e⟩ := NO e k1
  try simp at f1
  refine EV.skip ?_
  simp only [KN1, KN2, KN3]
  refine SR ?_
  simp (maxSteps := 2000000) -implicitDefEqProofs
  refine SR ?_
  simp (maxSteps := 2000000) -implicitDefEqProofs
  refine SR ?_
  simp (maxSteps := 2000000) -implicitDefEqProofs
  refine EV.seq (SR ?_)
  simp (maxSteps := 2000000) -implicitDefEqProofs
  refine EV.block (EV.seq (SR ?_))
  simp (maxSteps := 2000000) -implicitDefEqProofs
  obtain ⟨z9, e9, e⟩ := bnd_split e
  refine EV.nrm (fun v : { v : (Bool) × (Unit) // z9 = v.1 } => (fun (v9 : Bool) (g9 : Unit) => (⟨[J, .ptr 0 0 0 0, J, .i .i64 (p0.ops.length : Int), .ptr 1 0 0 0, .s ([] : List UInt8), .s ([] : List UInt8), J, J, J, J, J, J, J, J, J, J, .i .i64 p0.k, .b v9, J, J, J, J, J, J, J, J, J, J, J, J, J, J, J, J, J, J, J, J, J, J, J, J, J, J, J, J, J, J, J, J, J, J, J, J, J, J, J, J, J, J, J, J, J, J, J, J, J, J, J, J, J, J, J, J, J, J, J, J, J, J, J, J, J, J, J, J, J, J, J, J, J, J, J, J, J, J, J, J, J, J, J, J, J, J, J, J, J], [.arr 0 6 [[.i .i64 p0.k, .ro 4 (p0.ops.map operC), .s p0.p.name, .ro 1 (p0.p.path.map stepC), .s p0.name, .s p0.variant]], .arr 0 2 [[.s ([] : List UInt8), .c (.slice none 0 0)]]]⟩ : St)) v.1.1 v.1.2) ?_ ?_
  ·skip
   refine EV.condT ?_
   simp -implicitDefEqProofs
   refine condT_intro (fun k2 => ?_) (fun k2 => ?_)
   ·as_aux_lemma =>
    try simp at k2
    obtain ⟨f2, e9⟩ := PO e9 k2
    try simp at f2
    refine EV.skip ?_
    simp only [KN1, KN2, KN3]
    refine ⟨⟨(true, ()), e9.symm⟩, ?_⟩
    try dsimp only
    refine Sub.cutF 2 (by simp) ?_ ?_ <;> simp [List.range_succ, toIdx_range, passed]
   ·as_aux_lemma =>
    try simp at k2
    obtain ⟨f2, e9⟩ := NO e9 k2
    try simp at f2
    refine SR ?_
    simp (maxSteps := 2000000) -implicitDefEqProofs
    refine EV.condT ?_
    simp -implicitDefEqProofs
    refine condT_intro (fun k3 => ?_) (fun k3 => ?_)
    ·as_aux_lemma =>
     try simp at k3
     obtain ⟨f3, e9⟩ := PO e9 k3
     try simp at f3
     refine EV.skip ?_
     simp only [KN1, KN2, KN3]
     refine ⟨⟨(true, ()), e9.symm⟩, ?_⟩
     try dsimp only
     refine Sub.cutF 2 (by simp) ?_ ?_ <;> simp [List.range_succ, toIdx_range, passed]
    ·as_aux_lemma =>
     try simp at k3
     obtain ⟨f3, e9⟩ := NO e9 k3
     try simp at f3
     refine RG ?_
     simp (maxSteps := 2000000) -implicitDefEqProofs
     refine ⟨⟨((decide (p0.k = 15)), ()), e9.symm⟩, ?_⟩
     try dsimp only
     refine Sub.cutF 2 (by simp) ?_ ?_ <;> simp [List.range_succ, toIdx_range, passed]
  ·skip
   rintro ⟨⟨v9, g9⟩, e9⟩
   simp only [KN1, KN2, KN3, KN4]
   replace e := bnd_on e e9
   try dsimp only at e
   refine EV.condT ?_
   simp -implicitDefEqProofs
   refine condT_intro (fun k4 => ?_) (fun k4 => ?_)
   ·as_aux_lemma =>
    try simp at k4
    obtain ⟨f4, e⟩ := PO e k4
    try simp at f4
    refine RG ?_
    simp (maxSteps := 2000000) -implicitDefEqProofs
    refine SR ?_
    simp (maxSteps := 2000000) -implicitDefEqProofs [-guardG_v, guardG_bt, guardG_bf]
    by_cases k5 : (p0.ops.length : Int) = 1
    ·skip
     have kk5 := k5
     try simp at kk5
     simp (maxSteps := 2000000) -implicitDefEqProofs [-guardG_v, guardG_bt, guardG_bf, k5, kk5]
     by_cases k6 : p0.name = ([] : List UInt8)
     ·skip
      have kk6 := k6
      try simp at kk6
      simp (maxSteps := 2000000) -implicitDefEqProofs [-guardG_v, guardG_bt, guardG_bf, k5, kk5, k6, kk6]
      by_cases k7 : p0.variant = ([] : List UInt8)
      ·skip
       have kk7 := k7
       try simp at kk7
       simp (maxSteps := 2000000) -implicitDefEqProofs [-guardG_v, guardG_bt, guardG_bf, k5, kk5, k6, kk6, k7, kk7]
       refine callG_data [] (w_tSamePlace p0.p (PlaceD.mk ([] : List UInt8) ([]))) ?_ ?_ ?_
       ·simp [allP, allR, c0, ld1, ld0, cvOb, Pu, take_len_map, List.getD, List.range_succ]
       ·first | trivial | simp [nr, nr1, nr0]
       simp (maxSteps := 2000000) -implicitDefEqProofs [-guardG_v, guardG_bt, guardG_bf, k5, kk5, k6, kk6, k7, kk7]
       refine EV.ret ?_
       simp only [KR1, KR2, KR3, KR4]
       subst e
       refine Fin.pure0 ?_
       first | (simp; done) | (simp [k5, kk5, k6, kk6, k7, kk7]; done) | (simp <;> grind)
      have kk7 := k7
      try simp at kk7
      simp (maxSteps := 2000000) -implicitDefEqProofs [-guardG_v, guardG_bt, guardG_bf, k5, kk5, k6, kk6, k7, kk7]
      refine EV.ret ?_
      simp only [KR1, KR2, KR3, KR4]
      subst e
      refine Fin.pure0 ?_
      first | (simp; done) | (simp [k5, kk5, k6, kk6, k7, kk7]; done) | (simp <;> grind)
     have kk6 := k6
     try simp at kk6
     simp (maxSteps := 2000000) -implicitDefEqProofs [-guardG_v, guardG_bt, guardG_bf, k5, kk5, k6, kk6]
     refine EV.ret ?_
     simp only [KR1, KR2, KR3, KR4]
     subst e
     refine Fin.pure0 ?_
     first | (simp; done) | (simp [k5, kk5, k6, kk6]; done) | (simp <;> grind)
    have kk5 := k5
    try simp at kk5
    simp (maxSteps := 2000000) -implicitDefEqProofs [-guardG_v, guardG_bt, guardG_bf, k5, kk5]
    refine EV.ret ?_
    simp only [KR1, KR2, KR3, KR4]
    subst e
    refine Fin.pure0 ?_
    first | (simp; done) | (simp [k5, kk5]; done) | (simp <;> grind)
   ·as_aux_lemma =>
    try simp at k4
    obtain ⟨f4, e⟩ := NO e k4
    try simp at f4
    refine EV.seq (SR ?_)
    simp (maxSteps := 2000000) -implicitDefEqProofs
    obtain ⟨z13, e13, e⟩ := bnd_split e
    refine EV.nrm (fun v : { v : (Bool) × (Unit) // z13 = v.1 } => (fun (v13 : Bool) (g13 : Unit) => (⟨[J, .ptr 0 0 0 0, J, .i .i64 (p0.ops.length : Int), .ptr 1 0 0 0, .s ([] : List UInt8), .s ([] : List UInt8), J, J, J, J, J, J, J, J, J, J, .i .i64 p0.k, J, J, J, J, J, J, .b v13, J, J, J, J, J, J, J, J, J, J, J, J, J, J, J, J, J, J, J, J, J, J, J, J, J, J, J, J, J, J, J, J, J, J, J, J, J, J, J, J, J, J, J, J, J, J, J, J, J, J, J, J, J, J, J, J, J, J, J, J, J, J, J, J, J, J, J, J, J, J, J, J, J, J, J, J, J, J, J, J, J, J, J], [.arr 0 6 [[.i .i64 p0.k, .ro 4 (p0.ops.map operC), .s p0.p.name, .ro 1 (p0.p.path.map stepC), .s p0.name, .s p0.variant]], .arr 0 2 [[.s ([] : List UInt8), .c (.slice none 0 0)]]]⟩ : St)) v.1.1 v.1.2) ?_ ?_
    ·skip
     refine EV.condT ?_
     simp -implicitDefEqProofs
     refine condT_intro (fun k8 => ?_) (fun k8 => ?_)
     ·as_aux_lemma =>
      try simp at k8
      obtain ⟨f8, e13⟩ := PO e13 k8
      try simp at f8
      refine EV.skip ?_
      simp only [KN1, KN2, KN3]
      refine ⟨⟨(true, ()), e13.symm⟩, ?_⟩
      try dsimp only
      refine Sub.cutF 2 (by simp) ?_ ?_ <;> simp [List.range_succ, toIdx_range, passed]
     ·as_aux_lemma =>
      try simp at k8
      obtain ⟨f8, e13⟩ := NO e13 k8
      try simp at f8
      refine SR ?_
      simp (maxSteps := 2000000) -implicitDefEqProofs
      refine EV.condT ?_
      simp -implicitDefEqProofs
      refine condT_intro (fun k9 => ?_) (fun k9 => ?_)
      ·as_aux_lemma =>
       try simp at k9
       obtain ⟨f9, e13⟩ := PO e13 k9
       try simp at f9
       refine EV.skip ?_
       simp only [KN1, KN2, KN3]
       refine ⟨⟨(true, ()), e13.symm⟩, ?_⟩
       try dsimp only
       refine Sub.cutF 2 (by simp) ?_ ?_ <;> simp [List.range_succ, toIdx_range, passed]
      ·as_aux_lemma =>
       try simp at k9
       obtain ⟨f9, e13⟩ := NO e13 k9
       try simp at f9
       refine SR ?_
       simp (maxSteps := 2000000) -implicitDefEqProofs
       refine EV.condT ?_
       simp -implicitDefEqProofs
       refine condT_intro (fun k10 => ?_) (fun k10 => ?_)
       ·as_aux_lemma =>
        try simp at k10
        obtain ⟨f10, e13⟩ := PO e13 k10
        try simp at f10
        refine EV.skip ?_
        simp only [KN1, KN2, KN3]
        refine ⟨⟨(true, ()), e13.symm⟩, ?_⟩
        try dsimp only
        refine Sub.cutF 2 (by simp) ?_ ?_ <;> simp [List.range_succ, toIdx_range, passed]
       ·as_aux_lemma =>
        try simp at k10
        obtain ⟨f10, e13⟩ := NO e13 k10
        try simp at f10
        refine SR ?_
        simp (maxSteps := 2000000) -implicitDefEqProofs
        refine EV.condT ?_
        simp -implicitDefEqProofs
        refine condT_intro (fun k11 => ?_) (fun k11 => ?_)
        ·as_aux_lemma =>
         try simp at k11
         obtain ⟨f11, e13⟩ := PO e13 k11
         try simp at f11
         refine EV.skip ?_
         simp only [KN1, KN2, KN3]
         refine ⟨⟨(true, ()), e13.symm⟩, ?_⟩
         try dsimp only
         refine Sub.cutF 2 (by simp) ?_ ?_ <;> simp [List.range_succ, toIdx_range, passed]
        ·as_aux_lemma =>
         try simp at k11
         obtain ⟨f11, e13⟩ := NO e13 k11
         try simp at f11
         refine RG ?_
         simp (maxSteps := 2000000) -implicitDefEqProofs
         refine ⟨⟨((decide (p0.k = 5)), ()), e13.symm⟩, ?_⟩
         try dsimp only
         refine Sub.cutF 2 (by simp) ?_ ?_ <;> simp [List.range_succ, toIdx_range, passed]
    ·skip
     rintro ⟨⟨v13, g13⟩, e13⟩
     simp only [KN1, KN2, KN3, KN4]
     replace e := bnd_on e e13
     try dsimp only at e
     refine EV.condT ?_
     simp -implicitDefEqProofs
     refine condT_intro (fun k12 => ?_) (fun k12 => ?_)
     ·as_aux_lemma =>
      try simp at k12
      obtain ⟨f12, e⟩ := PO e k12
      try simp at f12
      refine RG ?_
      simp (maxSteps := 2000000) -implicitDefEqProofs
      refine SR ?_
      simp (maxSteps := 2000000) -implicitDefEqProofs [-guardG_v, guardG_bt, guardG_bf]
      by_cases k13 : (p0.ops.length : Int) = 2
      ·skip
       have kk13 := k13
       try simp at kk13
       simp (maxSteps := 2000000) -implicitDefEqProofs [-guardG_v, guardG_bt, guardG_bf, k13, kk13]
       by_cases k14 : p0.name = ([] : List UInt8)
       ·skip
        have kk14 := k14
        try simp at kk14
        simp (maxSteps := 2000000) -implicitDefEqProofs [-guardG_v, guardG_bt, guardG_bf, k13, kk13, k14, kk14]
        by_cases k15 : p0.variant = ([] : List UInt8)
        ·skip
         have kk15 := k15
         try simp at kk15
         simp (maxSteps := 2000000) -implicitDefEqProofs [-guardG_v, guardG_bt, guardG_bf, k13, kk13, k14, kk14, k15, kk15]
         refine callG_data [] (w_tSamePlace p0.p (PlaceD.mk ([] : List UInt8) ([]))) ?_ ?_ ?_
         ·simp [allP, allR, c0, ld1, ld0, cvOb, Pu, take_len_map, List.getD, List.range_succ]
         ·first | trivial | simp [nr, nr1, nr0]
         simp (maxSteps := 2000000) -implicitDefEqProofs [-guardG_v, guardG_bt, guardG_bf, k13, kk13, k14, kk14, k15, kk15]
         refine EV.ret ?_
         simp only [KR1, KR2, KR3, KR4]
         subst e
         refine Fin.pure0 ?_
         first | (simp; done) | (simp [k13, kk13, k14, kk14, k15, kk15]; done) | (simp <;> grind)
        have kk15 := k15
        try simp at kk15
        simp (maxSteps := 2000000) -implicitDefEqProofs [-guardG_v, guardG_bt, guardG_bf, k13, kk13, k14, kk14, k15, kk15]
        refine EV.ret ?_
        simp only [KR1, KR2, KR3, KR4]
        subst e
        refine Fin.pure0 ?_
        first | (simp; done) | (simp [k13, kk13, k14, kk14, k15, kk15]; done) | (simp <;> grind)
       have kk14 := k14
       try simp at kk14
       simp (maxSteps := 2000000) -implicitDefEqProofs [-guardG_v, guardG_bt, guardG_bf, k13, kk13, k14, kk14]
       refine EV.ret ?_
       simp only [KR1, KR2, KR3, KR4]
       subst e
       refine Fin.pure0 ?_
       first | (simp; done) | (simp [k13, kk13, k14, kk14]; done) | (simp <;> grind)
      have kk13 := k13
      try simp at kk13
      simp (maxSteps := 2000000) -implicitDefEqProofs [-guardG_v, guardG_bt, guardG_bf, k13, kk13]
      refine EV.ret ?_
      simp only [KR1, KR2, KR3, KR4]
      subst e
      refine Fin.pure0 ?_
      first | (simp; done) | (simp [k13, kk13]; done) | (simp <;> grind)
     ·as_aux_lemma =>
      try simp at k12
      obtain ⟨f12, e⟩ := NO e k12
      try simp at f12
      refine EV.seq (SR ?_)
      simp (maxSteps := 2000000) -implicitDefEqProofs
      obtain ⟨z19, e19, e⟩ := bnd_split e
      refine EV.nrm (fun v : { v : (Bool) × (Unit) // z19 = v.1 } => (fun (v19 : Bool) (g19 : Unit) => (⟨[J, .ptr 0 0 0 0, J, .i .i64 (p0.ops.length : Int), .ptr 1 0 0 0, .s ([] : List UInt8), .s ([] : List UInt8), J, J, J, J, J, J, J, J, J, J, .i .i64 p0.k, J, J, J, J, J, J, J, J, J, J, J, J, J, J, .b v19, J, J, J, J, J, J, J, J, J, J, J, J, J, J, J, J, J, J, J, J, J, J, J, J, J, J, J, J, J, J, J, J, J, J, J, J, J, J, J, J, J, J, J, J, J, J, J, J, J, J, J, J, J, J, J, J, J, J, J, J, J, J, J, J, J, J, J, J, J, J, J, J, J, J, J], [.arr 0 6 [[.i .i64 p0.k, .ro 4 (p0.ops.map operC), .s p0.p.name, .ro 1 (p0.p.path.map stepC), .s p0.name, .s p0.variant]], .arr 0 2 [[.s ([] : List UInt8), .c (.slice none 0 0)]]]⟩ : St)) v.1.1 v.1.2) ?_ ?_
      ·skip
       refine EV.condT ?_
       simp -implicitDefEqProofs
       refine condT_intro (fun k16 => ?_) (fun k16 => ?_)
       ·as_aux_lemma =>
        try simp at k16
        obtain ⟨f16, e19⟩ := PO e19 k16
        try simp at f16
        refine EV.skip ?_
        simp only [KN1, KN2, KN3]
        refine ⟨⟨(true, ()), e19.symm⟩, ?_⟩
        try dsimp only
        refine Sub.cutF 2 (by simp) ?_ ?_ <;> simp [List.range_succ, toIdx_range, passed]
       ·as_aux_lemma =>
        try simp at k16
        obtain ⟨f16, e19⟩ := NO e19 k16
        try simp at f16
        refine RG ?_
        simp (maxSteps := 2000000) -implicitDefEqProofs
        refine ⟨⟨((decide (p0.k = 7)), ()), e19.symm⟩, ?_⟩
        try dsimp only
        refine Sub.cutF 2 (by simp) ?_ ?_ <;> simp [List.range_succ, toIdx_range, passed]
      ·skip
       rintro ⟨⟨v19, g19⟩, e19⟩
       simp only [KN1, KN2, KN3, KN4]
       replace e := bnd_on e e19
       try dsimp only at e
       refine EV.condT ?_
       simp -implicitDefEqProofs
       refine condT_intro (fun k17 => ?_) (fun k17 => ?_)
       ·as_aux_lemma =>
        try simp at k17
        obtain ⟨f17, e⟩ := PO e k17
        try simp at f17
        refine EV.drawG tabOK mixedOK ?_
        simp (maxSteps := 2000000) -implicitDefEqProofs [-guardG_v, guardG_bt, guardG_bf]
        by_cases k18 : (p0.ops.length : Int) = 0
        ·skip
         have kk18 := k18
         try simp at kk18
         simp (maxSteps := 2000000) -implicitDefEqProofs [-guardG_v, guardG_bt, guardG_bf, k18, kk18]
         refine callG_fun (w_tValidPlace p0.p) ?_ ?_
         ·first | (simp; done) | (simp [-guardG_v, guardG_bt, guardG_bf, k18, kk18]; done)
         simp (maxSteps := 2000000) -implicitDefEqProofs [-guardG_v, guardG_bt, guardG_bf, k18, kk18]
         refine And.intro ?_ ?_
         ·first | decide +kernel | (simp -implicitDefEqProofs; decide +kernel) | (split <;> decide +kernel)
         try simp -implicitDefEqProofs
         refine SR ?_
         simp (maxSteps := 2000000) -implicitDefEqProofs [-guardG_v, guardG_bt, guardG_bf, k18, kk18]
         cases k19 : (tValidPlace p0.p)
         ·skip
          have kk19 := k19
          try simp at kk19
          simp (maxSteps := 2000000) -implicitDefEqProofs [-guardG_v, guardG_bt, guardG_bf, k18, kk18, k19, kk19]
          refine EV.ret ?_
          simp only [KR1, KR2, KR3, KR4]
          subst e
          refine Fin.pure0 ?_
          first | (simp; done) | (simp [k18, kk18, k19, kk19]; done) | (simp <;> grind)
         have kk19 := k19
         try simp at kk19
         simp (maxSteps := 2000000) -implicitDefEqProofs [-guardG_v, guardG_bt, guardG_bf, k18, kk18, k19, kk19]
         by_cases k20 : p0.name = ([] : List UInt8)
         ·skip
          have kk20 := k20
          try simp at kk20
          simp (maxSteps := 2000000) -implicitDefEqProofs [-guardG_v, guardG_bt, guardG_bf, k18, kk18, k19, kk19, k20, kk20]
          by_cases k21 : p0.variant = ([] : List UInt8)
          ·skip
           have kk21 := k21
           try simp at kk21
           simp (maxSteps := 2000000) -implicitDefEqProofs [-guardG_v, guardG_bt, guardG_bf, k18, kk18, k19, kk19, k20, kk20, k21, kk21]
           refine callG_fun (w_tSamePlace p0.p p0.p) ?_ ?_
           ·first | (simp; done) | (simp [-guardG_v, guardG_bt, guardG_bf, k18, kk18, k19, kk19, k20, kk20, k21, kk21]; done)
           simp (maxSteps := 2000000) -implicitDefEqProofs [-guardG_v, guardG_bt, guardG_bf, k18, kk18, k19, kk19, k20, kk20, k21, kk21]
           refine EV.ret ?_
           simp only [KR1, KR2, KR3, KR4]
           subst e
           refine Fin.pure0 ?_
           first | (simp; done) | (simp [k18, kk18, k19, kk19, k20, kk20, k21, kk21]; done) | (simp <;> grind)
          have kk21 := k21
          try simp at kk21
          simp (maxSteps := 2000000) -implicitDefEqProofs [-guardG_v, guardG_bt, guardG_bf, k18, kk18, k19, kk19, k20, kk20, k21, kk21]
          refine EV.ret ?_
          simp only [KR1, KR2, KR3, KR4]
          subst e
          refine Fin.pure0 ?_
          first | (simp; done) | (simp [k18, kk18, k19, kk19, k20, kk20, k21, kk21]; done) | (simp <;> grind)
         have kk20 := k20
         try simp at kk20
         simp (maxSteps := 2000000) -implicitDefEqProofs [-guardG_v, guardG_bt, guardG_bf, k18, kk18, k19, kk19, k20, kk20]
         refine EV.ret ?_
         simp only [KR1, KR2, KR3, KR4]
         subst e
         refine Fin.pure0 ?_
         first | (simp; done) | (simp [k18, kk18, k19, kk19, k20, kk20]; done) | (simp <;> grind)
        have kk18 := k18
        try simp at kk18
        simp (maxSteps := 2000000) -implicitDefEqProofs [-guardG_v, guardG_bt, guardG_bf, k18, kk18]
        refine And.intro ?_ ?_
        ·first | decide +kernel | (simp -implicitDefEqProofs; decide +kernel) | (split <;> decide +kernel)
        try simp -implicitDefEqProofs
        refine SR ?_
        simp (maxSteps := 2000000) -implicitDefEqProofs [-guardG_v, guardG_bt, guardG_bf, k18, kk18]
        refine EV.ret ?_
        simp only [KR1, KR2, KR3, KR4]
        subst e
        refine Fin.pure0 ?_
        first | (simp; done) | (simp [k18, kk18]; done) | (simp <;> grind)
       ·as_aux_lemma =>
        try simp at k17
        obtain ⟨f17, e⟩ := NO e k17
        try simp at f17
        refine EV.seq (SR ?_)
        simp (maxSteps := 2000000) -implicitDefEqProofs
        obtain ⟨z22, e22, e⟩ := bnd_split e
        refine EV.nrm (fun v : { v : (Bool) × (Unit) // z22 = v.1 } => (fun (v22 : Bool) (g22 : Unit) => (⟨[J, .ptr 0 0 0 0, J, .i .i64 (p0.ops.length : Int), .ptr 1 0 0 0, .s ([] : List UInt8), .s ([] : List UInt8), J, J, J, J, J, J, J, J, J, J, .i .i64 p0.k, J, J, J, J, J, J, J, J, J, J, J, J, J, J, J, J, J, J, J, J, J, J, J, J, J, J, .b v22, J, J, J, J, J, J, J, J, J, J, J, J, J, J, J, J, J, J, J, J, J, J, J, J, J, J, J, J, J, J, J, J, J, J, J, J, J, J, J, J, J, J, J, J, J, J, J, J, J, J, J, J, J, J, J, J, J, J, J, J, J, J, J], [.arr 0 6 [[.i .i64 p0.k, .ro 4 (p0.ops.map operC), .s p0.p.name, .ro 1 (p0.p.path.map stepC), .s p0.name, .s p0.variant]], .arr 0 2 [[.s ([] : List UInt8), .c (.slice none 0 0)]]]⟩ : St)) v.1.1 v.1.2) ?_ ?_
        ·skip
         refine EV.condT ?_
         simp -implicitDefEqProofs
         refine condT_intro (fun k22 => ?_) (fun k22 => ?_)
         ·as_aux_lemma =>
          try simp at k22
          obtain ⟨f22, e22⟩ := PO e22 k22
          try simp at f22
          refine EV.skip ?_
          simp only [KN1, KN2, KN3]
          refine ⟨⟨(true, ()), e22.symm⟩, ?_⟩
          try dsimp only
          refine Sub.cutF 2 (by simp) ?_ ?_ <;> simp [List.range_succ, toIdx_range, passed]
         ·as_aux_lemma =>
          try simp at k22
          obtain ⟨f22, e22⟩ := NO e22 k22
          try simp at f22
          refine SR ?_
          simp (maxSteps := 2000000) -implicitDefEqProofs
          refine EV.condT ?_
          simp -implicitDefEqProofs
          refine condT_intro (fun k23 => ?_) (fun k23 => ?_)
          ·as_aux_lemma =>
           try simp at k23
           obtain ⟨f23, e22⟩ := PO e22 k23
           try simp at f23
           refine EV.skip ?_
           simp only [KN1, KN2, KN3]
           refine ⟨⟨(true, ()), e22.symm⟩, ?_⟩
           try dsimp only
           refine Sub.cutF 2 (by simp) ?_ ?_ <;> simp [List.range_succ, toIdx_range, passed]
          ·as_aux_lemma =>
           try simp at k23
           obtain ⟨f23, e22⟩ := NO e22 k23
           try simp at f23
           refine RG ?_
           simp (maxSteps := 2000000) -implicitDefEqProofs
           refine ⟨⟨((decide (p0.k = 14)), ()), e22.symm⟩, ?_⟩
           try dsimp only
           refine Sub.cutF 2 (by simp) ?_ ?_ <;> simp [List.range_succ, toIdx_range, passed]
        ·skip
         rintro ⟨⟨v22, g22⟩, e22⟩
         simp only [KN1, KN2, KN3, KN4]
         replace e := bnd_on e e22
         try dsimp only at e
         refine EV.condT ?_
         simp -implicitDefEqProofs
         refine condT_intro (fun k24 => ?_) (fun k24 => ?_)
         ·as_aux_lemma =>
          try simp at k24
          obtain ⟨f24, e⟩ := PO e k24
          try simp at f24
          refine EV.drawG tabOK mixedOK ?_
          simp (maxSteps := 2000000) -implicitDefEqProofs [-guardG_v, guardG_bt, guardG_bf]
          by_cases k25 : (p0.ops.length : Int) = 0
          ·skip
           have kk25 := k25
           try simp at kk25
           simp (maxSteps := 2000000) -implicitDefEqProofs [-guardG_v, guardG_bt, guardG_bf, k25, kk25]
           refine callG_fun (w_tValidName p0.p) ?_ ?_
           ·first | (simp; done) | (simp [-guardG_v, guardG_bt, guardG_bf, k25, kk25]; done)
           simp (maxSteps := 2000000) -implicitDefEqProofs [-guardG_v, guardG_bt, guardG_bf, k25, kk25]
           refine And.intro ?_ ?_
           ·first | decide +kernel | (simp -implicitDefEqProofs; decide +kernel) | (split <;> decide +kernel)
           try simp -implicitDefEqProofs
           refine SR ?_
           simp (maxSteps := 2000000) -implicitDefEqProofs [-guardG_v, guardG_bt, guardG_bf, k25, kk25]
           cases k26 : (tValidName p0.p)
           ·skip
            have kk26 := k26
            try simp at kk26
            simp (maxSteps := 2000000) -implicitDefEqProofs [-guardG_v, guardG_bt, guardG_bf, k25, kk25, k26, kk26]
            refine EV.ret ?_
            simp only [KR1, KR2, KR3, KR4]
            subst e
            refine Fin.pure0 ?_
            first | (simp; done) | (simp [k25, kk25, k26, kk26]; done) | (simp <;> grind)
           have kk26 := k26
           try simp at kk26
           simp (maxSteps := 2000000) -implicitDefEqProofs [-guardG_v, guardG_bt, guardG_bf, k25, kk25, k26, kk26]
           by_cases k27 : p0.name = ([] : List UInt8)
           ·skip
            have kk27 := k27
            try simp at kk27
            simp (maxSteps := 2000000) -implicitDefEqProofs [-guardG_v, guardG_bt, guardG_bf, k25, kk25, k26, kk26, k27, kk27]
            by_cases k28 : p0.variant = ([] : List UInt8)
            ·skip
             have kk28 := k28
             try simp at kk28
             simp (maxSteps := 2000000) -implicitDefEqProofs [-guardG_v, guardG_bt, guardG_bf, k25, kk25, k26, kk26, k27, kk27, k28, kk28]
             refine callG_fun (w_tSamePlace p0.p p0.p) ?_ ?_
             ·first | (simp; done) | (simp [-guardG_v, guardG_bt, guardG_bf, k25, kk25, k26, kk26, k27, kk27, k28, kk28]; done)
             simp (maxSteps := 2000000) -implicitDefEqProofs [-guardG_v, guardG_bt, guardG_bf, k25, kk25, k26, kk26, k27, kk27, k28, kk28]
             refine EV.ret ?_
             simp only [KR1, KR2, KR3, KR4]
             subst e
             refine Fin.pure0 ?_
             first | (simp; done) | (simp [k25, kk25, k26, kk26, k27, kk27, k28, kk28]; done) | (simp <;> grind)
            have kk28 := k28
            try simp at kk28
            simp (maxSteps := 2000000) -implicitDefEqProofs [-guardG_v, guardG_bt, guardG_bf, k25, kk25, k26, kk26, k27, kk27, k28, kk28]
            refine EV.ret ?_
            simp only [KR1, KR2, KR3, KR4]
            subst e
            refine Fin.pure0 ?_
            first | (simp; done) | (simp [k25, kk25, k26, kk26, k27, kk27, k28, kk28]; done) | (simp <;> grind)
           have kk27 := k27
           try simp at kk27
           simp (maxSteps := 2000000) -implicitDefEqProofs [-guardG_v, guardG_bt, guardG_bf, k25, kk25, k26, kk26, k27, kk27]
           refine EV.ret ?_
           simp only [KR1, KR2, KR3, KR4]
           subst e
           refine Fin.pure0 ?_
           first | (simp; done) | (simp [k25, kk25, k26, kk26, k27, kk27]; done) | (simp <;> grind)
          have kk25 := k25
          try simp at kk25
          simp (maxSteps := 2000000) -implicitDefEqProofs [-guardG_v, guardG_bt, guardG_bf, k25, kk25]
          refine And.intro ?_ ?_
          ·first | decide +kernel | (simp -implicitDefEqProofs; decide +kernel) | (split <;> decide +kernel)
          try simp -implicitDefEqProofs
          refine SR ?_
          simp (maxSteps := 2000000) -implicitDefEqProofs [-guardG_v, guardG_bt, guardG_bf, k25, kk25]
          refine EV.ret ?_
          simp only [KR1, KR2, KR3, KR4]
          subst e
          refine Fin.pure0 ?_
          first | (simp; done) | (simp [k25, kk25]; done) | (simp <;> grind)
         ·as_aux_lemma =>
          try simp at k24
          obtain ⟨f24, e⟩ := NO e k24
          try simp at f24
          refine SR ?_
          simp (maxSteps := 2000000) -implicitDefEqProofs
          refine EV.condT ?_
          simp -implicitDefEqProofs
          refine condT_intro (fun k29 => ?_) (fun k29 => ?_)
          ·as_aux_lemma =>
           try simp at k29
           obtain ⟨f29, e⟩ := PO e k29
           try simp at f29
           refine EV.drawG tabOK mixedOK ?_
           simp (maxSteps := 2000000) -implicitDefEqProofs
           refine callG_fun (w_tGreat p0.name) ?_ ?_
           ·simp
           simp (maxSteps := 2000000) -implicitDefEqProofs
           refine And.intro ?_ ?_
           ·first | decide +kernel | (simp -implicitDefEqProofs; decide +kernel) | (split <;> decide +kernel)
           try simp -implicitDefEqProofs
           refine SR ?_
           simp (maxSteps := 2000000) -implicitDefEqProofs [-guardG_v, guardG_bt, guardG_bf]
           cases k30 : (tGreat p0.name)
           ·skip
            have kk30 := k30
            try simp at kk30
            simp (maxSteps := 2000000) -implicitDefEqProofs [-guardG_v, guardG_bt, guardG_bf, k30, kk30]
            refine EV.ret ?_
            simp only [KR1, KR2, KR3, KR4]
            subst e
            refine Fin.pure0 ?_
            first | (simp; done) | (simp [k30, kk30]; done) | (simp <;> grind)
           have kk30 := k30
           try simp at kk30
           simp (maxSteps := 2000000) -implicitDefEqProofs [-guardG_v, guardG_bt, guardG_bf, k30, kk30]
           by_cases k31 : p0.variant = ([] : List UInt8)
           ·skip
            have kk31 := k31
            try simp at kk31
            simp (maxSteps := 2000000) -implicitDefEqProofs [-guardG_v, guardG_bt, guardG_bf, k30, kk30, k31, kk31]
            refine callG_data [] (w_tSamePlace p0.p (PlaceD.mk ([] : List UInt8) ([]))) ?_ ?_ ?_
            ·simp [allP, allR, c0, ld1, ld0, cvOb, Pu, take_len_map, List.getD, List.range_succ]
            ·first | trivial | simp [nr, nr1, nr0]
            simp (maxSteps := 2000000) -implicitDefEqProofs [-guardG_v, guardG_bt, guardG_bf, k30, kk30, k31, kk31]
            refine EV.ret ?_
            simp only [KR1, KR2, KR3, KR4]
            subst e
            refine Fin.pure0 ?_
            first | (simp; done) | (simp [k30, kk30, k31, kk31]; done) | (simp <;> grind)
           have kk31 := k31
           try simp at kk31
           simp (maxSteps := 2000000) -implicitDefEqProofs [-guardG_v, guardG_bt, guardG_bf, k30, kk30, k31, kk31]
           refine EV.ret ?_
           simp only [KR1, KR2, KR3, KR4]
           subst e
           refine Fin.pure0 ?_
           first | (simp; done) | (simp [k30, kk30, k31, kk31]; done) | (simp <;> grind)
          ·as_aux_lemma =>
           try simp at k29
           obtain ⟨f29, e⟩ := NO e k29
           try simp at f29
           refine SR ?_
           simp (maxSteps := 2000000) -implicitDefEqProofs
           refine EV.condT ?_
           simp -implicitDefEqProofs
           refine condT_intro (fun k32 => ?_) (fun k32 => ?_)
           ·as_aux_lemma =>
            try simp at k32
            obtain ⟨f32, e⟩ := PO e k32
            try simp at f32
            refine EV.drawG tabOK mixedOK ?_
            simp (maxSteps := 2000000) -implicitDefEqProofs [-guardG_v, guardG_bt, guardG_bf]
            by_cases k33 : (p0.ops.length : Int) ≤ 1
            ·skip
             have kk33 := k33
             try simp at kk33
             simp (maxSteps := 2000000) -implicitDefEqProofs [-guardG_v, guardG_bt, guardG_bf, k33, kk33]
             refine callG_fun (w_tGreat p0.name) ?_ ?_
             ·first | (simp; done) | (simp [-guardG_v, guardG_bt, guardG_bf, k33, kk33]; done)
             simp (maxSteps := 2000000) -implicitDefEqProofs [-guardG_v, guardG_bt, guardG_bf, k33, kk33]
             cases k34 : (tGreat p0.name)
             ·skip
              have kk34 := k34
              try simp at kk34
              simp (maxSteps := 2000000) -implicitDefEqProofs [-guardG_v, guardG_bt, guardG_bf, k33, kk33, k34, kk34]
              refine And.intro ?_ ?_
              ·first | decide +kernel | (simp -implicitDefEqProofs; decide +kernel) | (split <;> decide +kernel)
              try simp -implicitDefEqProofs
              refine SR ?_
              simp (maxSteps := 2000000) -implicitDefEqProofs [-guardG_v, guardG_bt, guardG_bf, k33, kk33, k34, kk34]
              refine EV.ret ?_
              simp only [KR1, KR2, KR3, KR4]
              subst e
              refine Fin.pure0 ?_
              first | (simp; done) | (simp [k33, kk33, k34, kk34]; done) | (simp <;> grind)
             have kk34 := k34
             try simp at kk34
             simp (maxSteps := 2000000) -implicitDefEqProofs [-guardG_v, guardG_bt, guardG_bf, k33, kk33, k34, kk34]
             refine callG_fun (w_tGreat p0.variant) ?_ ?_
             ·first | (simp; done) | (simp [-guardG_v, guardG_bt, guardG_bf, k33, kk33, k34, kk34]; done)
             simp (maxSteps := 2000000) -implicitDefEqProofs [-guardG_v, guardG_bt, guardG_bf, k33, kk33, k34, kk34]
             refine And.intro ?_ ?_
             ·first | decide +kernel | (simp -implicitDefEqProofs; decide +kernel) | (split <;> decide +kernel)
             try simp -implicitDefEqProofs
             refine SR ?_
             simp (maxSteps := 2000000) -implicitDefEqProofs [-guardG_v, guardG_bt, guardG_bf, k33, kk33, k34, kk34]
             cases k35 : (tGreat p0.variant)
             ·skip
              have kk35 := k35
              try simp at kk35
              simp (maxSteps := 2000000) -implicitDefEqProofs [-guardG_v, guardG_bt, guardG_bf, k33, kk33, k34, kk34, k35, kk35]
              refine EV.ret ?_
              simp only [KR1, KR2, KR3, KR4]
              subst e
              refine Fin.pure0 ?_
              first | (simp; done) | (simp [k33, kk33, k34, kk34, k35, kk35]; done) | (simp <;> grind)
             have kk35 := k35
             try simp at kk35
             simp (maxSteps := 2000000) -implicitDefEqProofs [-guardG_v, guardG_bt, guardG_bf, k33, kk33, k34, kk34, k35, kk35]
             refine callG_data [] (w_tSamePlace p0.p (PlaceD.mk ([] : List UInt8) ([]))) ?_ ?_ ?_
             ·simp [allP, allR, c0, ld1, ld0, cvOb, Pu, take_len_map, List.getD, List.range_succ]
             ·first | trivial | simp [nr, nr1, nr0]
             simp (maxSteps := 2000000) -implicitDefEqProofs [-guardG_v, guardG_bt, guardG_bf, k33, kk33, k34, kk34, k35, kk35]
             refine EV.ret ?_
             simp only [KR1, KR2, KR3, KR4]
             subst e
             refine Fin.pure0 ?_
             first | (simp; done) | (simp [k33, kk33, k34, kk34, k35, kk35]; done) | (simp <;> grind)
            have kk33 := k33
            try simp at kk33
            simp (maxSteps := 2000000) -implicitDefEqProofs [-guardG_v, guardG_bt, guardG_bf, k33, kk33]
            refine And.intro ?_ ?_
            ·first | decide +kernel | (simp -implicitDefEqProofs; decide +kernel) | (split <;> decide +kernel)
            try simp -implicitDefEqProofs
            refine SR ?_
            simp (maxSteps := 2000000) -implicitDefEqProofs [-guardG_v, guardG_bt, guardG_bf, k33, kk33]
            refine EV.ret ?_
            simp only [KR1, KR2, KR3, KR4]
            subst e
            refine Fin.pure0 ?_
            first | (simp; done) | (simp [k33, kk33]; done) | (simp <;> grind)
           ·as_aux_lemma =>
            try simp at k32
            obtain ⟨f32, e⟩ := NO e k32
            try simp at f32
            refine SR ?_
            simp (maxSteps := 2000000) -implicitDefEqProofs
            refine EV.condT ?_
            simp -implicitDefEqProofs
            refine condT_intro (fun k36 => ?_) (fun k36 => ?_)
            ·as_aux_lemma =>
             try simp at k36
             obtain ⟨f36, e⟩ := PO e k36
             try simp at f36
             refine EV.drawG tabOK mixedOK ?_
             simp (maxSteps := 2000000) -implicitDefEqProofs
             refine callG_fun (w_tSmall p0.name) ?_ ?_
             ·simp
             simp (maxSteps := 2000000) -implicitDefEqProofs
             refine And.intro ?_ ?_
             ·first | decide +kernel | (simp -implicitDefEqProofs; decide +kernel) | (split <;> decide +kernel)
             try simp -implicitDefEqProofs
             refine SR ?_
             simp (maxSteps := 2000000) -implicitDefEqProofs [-guardG_v, guardG_bt, guardG_bf]
             cases k37 : (tSmall p0.name)
             ·skip
              have kk37 := k37
              try simp at kk37
              simp (maxSteps := 2000000) -implicitDefEqProofs [-guardG_v, guardG_bt, guardG_bf, k37, kk37]
              refine EV.ret ?_
              simp only [KR1, KR2, KR3, KR4]
              subst e
              refine Fin.pure0 ?_
              first | (simp; done) | (simp [k37, kk37]; done) | (simp <;> grind)
             have kk37 := k37
             try simp at kk37
             simp (maxSteps := 2000000) -implicitDefEqProofs [-guardG_v, guardG_bt, guardG_bf, k37, kk37]
             by_cases k38 : p0.variant = ([] : List UInt8)
             ·skip
              have kk38 := k38
              try simp at kk38
              simp (maxSteps := 2000000) -implicitDefEqProofs [-guardG_v, guardG_bt, guardG_bf, k37, kk37, k38, kk38]
              refine callG_data [] (w_tSamePlace p0.p (PlaceD.mk ([] : List UInt8) ([]))) ?_ ?_ ?_
              ·simp [allP, allR, c0, ld1, ld0, cvOb, Pu, take_len_map, List.getD, List.range_succ]
              ·first | trivial | simp [nr, nr1, nr0]
              simp (maxSteps := 2000000) -implicitDefEqProofs [-guardG_v, guardG_bt, guardG_bf, k37, kk37, k38, kk38]
              refine EV.ret ?_
              simp only [KR1, KR2, KR3, KR4]
              subst e
              refine Fin.pure0 ?_
              first | (simp; done) | (simp [k37, kk37, k38, kk38]; done) | (simp <;> grind)
             have kk38 := k38
             try simp at kk38
             simp (maxSteps := 2000000) -implicitDefEqProofs [-guardG_v, guardG_bt, guardG_bf, k37, kk37, k38, kk38]
             refine EV.ret ?_
             simp only [KR1, KR2, KR3, KR4]
             subst e
             refine Fin.pure0 ?_
             first | (simp; done) | (simp [k37, kk37, k38, kk38]; done) | (simp <;> grind)
            ·as_aux_lemma =>
             try simp at k36
             obtain ⟨f36, e⟩ := NO e k36
             try simp at f36
             refine RG ?_
             simp (maxSteps := 2000000) -implicitDefEqProofs
             refine SR ?_
             simp (maxSteps := 2000000) -implicitDefEqProofs [-guardG_v, guardG_bt, guardG_bf]
             refine EV.ret ?_
             simp only [KR1, KR2, KR3, KR4]
             subst e
             refine Fin.pure0 ?_
             first | (simp; done) | (simp; done) | (simp <;> grind)
end
end Go.Proofs.Tryz
end
