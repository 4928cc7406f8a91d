/- Contracts of the document's functions over types, places, operands, and what is set. -/
import Derived.Test.YtakfpmogpnoibaaGreatDoorNamA
set_option linter.unusedVariables false
set_option linter.unusedSimpArgs false
set_option linter.constructorNameAsVariable false
section
namespace Go.Proofs.Tryz
open Go Go.AM
attribute [local simp] wpG_op wpG_nil contG_some wpG_guard guardG_v guardG_o guardG_tup gval pureOp stepG_if isPick pickG_pick pickB_b pickOK isCall step_move step_assign step_alloc step_box boxV_some step_load step_store step_binOp step_unOp step_fieldAddr faV step_indexAddr ixA_slc ixA_arr step_extract extV_tup step_nilCheck ncV_ptr ncV_rp ncV_fn ncV_mp step_build buildV step_buildSlice bsV step_index ixV_arr ixV_str step_append apB step_makeSlice msV_i step_makeFunc over step_len step_makeMap mmV step_mapUpdate step_insert muA_map muB_mp step_lookup lkA_map lkB_mp step_slice slcV_s slcV_sl slcV_ro cutB_some slObV_arr bound_none bound_some bndV_i lenB_str lenB_ro lenB_sl lenB_nil lenB_z ld_ptr ld_rp offV_ptr offV_rp idxV_ro idxV_sl unV_not unV_neg binV_int binV_str binV_eqlb binV_neqb intOp strOp St.put updL setOb St.ev toV St.lk cellsOf AM.valOf TK.agg stv fillV places TI.zero condT_true condT_false finS resL resSlot packV ren ren1 ren0 Value.cells builtinV appendV elemsOf keepT room_of wrap_in toIdx passed Function.comp_def take_len_map lenV touchOf hid tab1 tab2 tab3 tab4 tab5 tab6 tab7 tab8 tab9 tab20 tab22 tab23 tab24 tab26 tab32 tab33 tab35 tab36 tab37 tab39 tab41 tab42 tab43 tab45 tab46 tab47 tab49 tab50 tab52 tab57 tab58 tab60 tab63 tab65 tab66 tab68 tab70 tab74 tab79 tab83 tab86 tab87 tab89 tab92 tab100 tab101 tab102 tab103 tab105 tab107 tab108 tab113 tab114 tab116 tab117 tab118 tab122 tab123 tab125 tab127 tab130 tab132 tab136 tab138 tab139 tab141 tab142 tab144 tab146 tab148 tab173 tab175 tab178 tab179 tab180 tab182 tab189 tab215 tab219 tab220 tab224 tab225 tab241 tab244 tab247 tab253 tab261 tab262 tab265 tab266 armC_eq blockC_eq bodyC_eq enumC_eq fieldC_eq fnC_eq inC_eq localC_eq mirBodyC_eq operC_eq placeC_eq rvC_eq sourceC_eq spotC_eq stepC_eq stmtC_eq structC_eq tmC_eq tyC_eq useC_eq valueC_eq variantC_eq binV_eqls binV_neqs cutL_nil cutL_junk cutL_cons ren_arr ren_gone ren_unborn ren_var ren_row step_convert cvV_i cvV_sl cvV_s cvK_slc cvE_u8 bytesOf bor1 bor2 bor3 bor4
set_option linter.unusedSimpArgs false
set_option linter.unusedVariables false
set_option maxRecDepth 10000
set_option maxHeartbeats 4000000
noncomputable section

def rGreat (p0 : List UInt8) : Bool :=
 ((rUpper p0) && (!(rReserved p0)))
set_option maxHeartbeats 40000000 in
theorem w_rGreat (p0 : List UInt8)  : QC prog 38 [.s p0] [] (.b (rGreat p0)) [] := by
 refine QC.of_body tabOK func38 rfl (by kernel_rfl) ?_
 simp only [f38]
 generalize e : rGreat p0 = R
 unfold rGreat at e
 refine EV.seq (EV.regionG tabOK ?_)
 simp (maxSteps := 2000000) -implicitDefEqProofs
 refine EV.seq (EV.regionG tabOK ?_)
 simp (maxSteps := 2000000) -implicitDefEqProofs
 refine callG_fun (w_rUpper p0) ?_ ?_
 ·simp
 simp (maxSteps := 2000000) -implicitDefEqProofs
 refine EV.seq ?_
 refine EV.nrm (fun _ : Unit => (⟨[J, J, .b ((rUpper p0) && (!(rReserved p0))), J, J, J, J, J, J, J, J, J], []⟩ : St)) ?_ ?_
 ·skip
  cases k2 : (rUpper p0)
  ·skip
   have kk2 := k2
   try simp at kk2
   refine EV.regionG tabOK ?_
   simp (maxSteps := 2000000) -implicitDefEqProofs +contextual [k2, kk2]
   refine ⟨(), ?_⟩
   try dsimp only
   refine Sub.cutF 0 (by simp) ?_ ?_ <;> simp [List.range_succ, toIdx_range, passed, k2, kk2]
  have kk2 := k2
  try simp at kk2
  refine EV.regionG tabOK ?_
  simp (maxSteps := 2000000) -implicitDefEqProofs +contextual [k2, kk2]
  refine callG_fun (w_rReserved p0) ?_ ?_
  ·first | (simp; done) | (simp [k2, kk2]; done)
  simp (maxSteps := 2000000) -implicitDefEqProofs +contextual [k2, kk2]
  refine ⟨(), ?_⟩
  try dsimp only
  refine Sub.cutF 0 (by simp) ?_ ?_ <;> simp [List.range_succ, toIdx_range, passed, k2, kk2]
 rintro _
 simp only [thenK_normal, blockK_normal, scopeK_normal, bodyK_normal]
 refine EV.ret ?_
 simp only [thenK_ret, blockK_ret, scopeK_ret, bodyK_ret]
 subst e
 refine Fin.pure0 ?_
 first | (simp; done) | (simp <;> grind)


def rSmall (p0 : List UInt8) : Bool :=
 (((rWord p0) && (!(rUpper p0))) && (!(rReserved p0)))
set_option maxHeartbeats 40000000 in
theorem w_rSmall (p0 : List UInt8)  : QC prog 42 [.s p0] [] (.b (rSmall p0)) [] := by
 refine QC.of_body tabOK func42 rfl (by kernel_rfl) ?_
 simp only [f42]
 generalize e : rSmall p0 = R
 unfold rSmall at e
 refine EV.seq (EV.regionG tabOK ?_)
 simp (maxSteps := 2000000) -implicitDefEqProofs
 refine EV.seq (EV.regionG tabOK ?_)
 simp (maxSteps := 2000000) -implicitDefEqProofs
 refine callG_fun (w_rWord p0) ?_ ?_
 ·simp
 simp (maxSteps := 2000000) -implicitDefEqProofs
 refine EV.seq (EV.regionG tabOK ?_)
 simp (maxSteps := 2000000) -implicitDefEqProofs
 refine callG_fun (w_rUpper p0) ?_ ?_
 ·simp
 simp (maxSteps := 2000000) -implicitDefEqProofs
 refine EV.seq ?_
 refine EV.nrm (fun _ : Unit => (⟨[J, J, .b (((rWord p0) && (!(rUpper p0))) && (!(rReserved p0))), J, J, J, J, J, J, J, J, J, J, J, J, J, J, J, J], []⟩ : St)) ?_ ?_
 ·skip
  cases k2 : (rWord p0)
  ·skip
   have kk2 := k2
   try simp at kk2
   refine EV.regionG tabOK ?_
   simp (maxSteps := 2000000) -implicitDefEqProofs +contextual [k2, kk2]
   refine ⟨(), ?_⟩
   try dsimp only
   refine Sub.cutF 0 (by simp) ?_ ?_ <;> simp [List.range_succ, toIdx_range, passed, k2, kk2]
  have kk2 := k2
  try simp at kk2
  cases k3 : (rUpper p0)
  ·skip
   have kk3 := k3
   try simp at kk3
   refine EV.regionG tabOK ?_
   simp (maxSteps := 2000000) -implicitDefEqProofs +contextual [k2, kk2, k3, kk3]
   refine callG_fun (w_rReserved p0) ?_ ?_
   ·first | (simp; done) | (simp [k2, kk2, k3, kk3]; done)
   simp (maxSteps := 2000000) -implicitDefEqProofs +contextual [k2, kk2, k3, kk3]
   refine ⟨(), ?_⟩
   try dsimp only
   refine Sub.cutF 0 (by simp) ?_ ?_ <;> simp [List.range_succ, toIdx_range, passed, k2, kk2, k3, kk3]
  have kk3 := k3
  try simp at kk3
  refine EV.regionG tabOK ?_
  simp (maxSteps := 2000000) -implicitDefEqProofs +contextual [k2, kk2, k3, kk3]
  refine ⟨(), ?_⟩
  try dsimp only
  refine Sub.cutF 0 (by simp) ?_ ?_ <;> simp [List.range_succ, toIdx_range, passed, k2, kk2, k3, kk3]
 rintro _
 simp only [thenK_normal, blockK_normal, scopeK_normal, bodyK_normal]
 refine EV.ret ?_
 simp only [thenK_ret, blockK_ret, scopeK_ret, bodyK_ret]
 subst e
 refine Fin.pure0 ?_
 first | (simp; done) | (simp <;> grind)


def rValidTy_b (r_rValidTy : TyD → Int → Bool) (p0 : TyD) (p1 : Int) : Bool :=
 (if p0.k = 1 then ((decide (p0.name = ([] : List UInt8))) && (decide ((p0.l.length : Int) = 0))) else (if p0.k = 2 then ((rGreat p0.name) && (decide ((p0.l.length : Int) = 0))) else (if p0.k = 7 then ((rSmall p0.name) && (decide ((p0.l.length : Int) = 0))) else (if p0.k = 4 then (bnd (p0.l.getD 0 default) fun (y11_16 : TyD) => ((((decide (p1 < 60)) && (decide (p0.name = ([] : List UInt8)))) && (decide ((p0.l.length : Int) = 1))) && (r_rValidTy y11_16 (IntKind.i64.wrap (p1 + 1))))) else (if p0.k = 5 then (bnd (p0.l.getD 0 default) fun (y11_16 : TyD) => ((((decide (p1 < 60)) && (decide (p0.name = ([] : List UInt8)))) && (decide ((p0.l.length : Int) = 1))) && (r_rValidTy y11_16 (IntKind.i64.wrap (p1 + 1))))) else (if p0.k = 6 then (bnd (p0.l.getD 0 default) fun (y11_16 : TyD) => ((((decide (p1 < 60)) && (decide (p0.name = ([] : List UInt8)))) && (decide ((p0.l.length : Int) = 1))) && (r_rValidTy y11_16 (IntKind.i64.wrap (p1 + 1))))) else false))))))
set_option maxHeartbeats 40000000 in
theorem w_rValidTy_b (r_rValidTy : TyD → Int → Bool) (p0 : TyD) (p1 : Int)  (D : Nat) (H_rValidTy : ∀ (u0 : TyD) (u1 : Int), SizeOf.sizeOf u0 < D → QC prog 41 [.agg [.i .i64 u0.k, .s u0.name, .ro 3 (u0.l.map tyC)], .i .i64 u1] [] (.b (r_rValidTy u0 u1)) []) (hD : SizeOf.sizeOf p0 ≤ D) : QC prog 41 [.agg [.i .i64 p0.k, .s p0.name, .ro 3 (p0.l.map tyC)], .i .i64 p1] [] (.b (rValidTy_b r_rValidTy p0 p1)) [] := by
 refine QC.of_body tabOK func41 rfl (by kernel_rfl) ?_
 simp only [f41]
 generalize e : rValidTy_b r_rValidTy p0 p1 = R
 unfold rValidTy_b at e
 refine EV.seq (EV.regionG tabOK ?_)
 simp (maxSteps := 2000000) -implicitDefEqProofs
 refine EV.seq (EV.seq (EV.regionG tabOK ?_))
 simp (maxSteps := 2000000) -implicitDefEqProofs
 refine EV.block (EV.seq (EV.regionG tabOK ?_))
 simp (maxSteps := 2000000) -implicitDefEqProofs
 refine EV.condT ?_
 simp -implicitDefEqProofs
 refine condT_intro (fun k1 => ?_) (fun k1 => ?_)
 ·try simp at k1
  obtain ⟨f1, e⟩ := pos_on2 e (by first | simpa using k1 | grind)
  try simp at f1
  refine EV.seq (EV.regionG tabOK ?_)
  simp (maxSteps := 2000000) -implicitDefEqProofs +contextual
  refine EV.ret ?_
  simp only [thenK_ret, blockK_ret, scopeK_ret, bodyK_ret]
  subst e
  refine Fin.pure0 ?_
  first | (simp; done) | (simp <;> grind)
 try simp at k1
 obtain ⟨f1, e⟩ := neg_on2 e (by first | simpa using k1 | grind)
 try simp at f1
 refine EV.seq (EV.regionG tabOK ?_)
 simp (maxSteps := 2000000) -implicitDefEqProofs
 refine EV.condT ?_
 simp -implicitDefEqProofs
 refine condT_intro (fun k2 => ?_) (fun k2 => ?_)
 ·try simp at k2
  obtain ⟨f2, e⟩ := pos_on2 e (by first | simpa using k2 | grind)
  try simp at f2
  refine EV.seq (EV.regionG tabOK ?_)
  simp (maxSteps := 2000000) -implicitDefEqProofs +contextual
  refine callG_fun (w_rGreat p0.name) ?_ ?_
  ·simp
  simp (maxSteps := 2000000) -implicitDefEqProofs +contextual
  refine EV.ret ?_
  simp only [thenK_ret, blockK_ret, scopeK_ret, bodyK_ret]
  subst e
  refine Fin.pure0 ?_
  first | (simp; done) | (simp <;> grind)
 try simp at k2
 obtain ⟨f2, e⟩ := neg_on2 e (by first | simpa using k2 | grind)
 try simp at f2
 refine EV.seq (EV.regionG tabOK ?_)
 simp (maxSteps := 2000000) -implicitDefEqProofs
 refine EV.condT ?_
 simp -implicitDefEqProofs
 refine condT_intro (fun k3 => ?_) (fun k3 => ?_)
 ·try simp at k3
  obtain ⟨f3, e⟩ := pos_on2 e (by first | simpa using k3 | grind)
  try simp at f3
  refine EV.seq (EV.regionG tabOK ?_)
  simp (maxSteps := 2000000) -implicitDefEqProofs +contextual
  refine callG_fun (w_rSmall p0.name) ?_ ?_
  ·simp
  simp (maxSteps := 2000000) -implicitDefEqProofs +contextual
  refine EV.ret ?_
  simp only [thenK_ret, blockK_ret, scopeK_ret, bodyK_ret]
  subst e
  refine Fin.pure0 ?_
  first | (simp; done) | (simp <;> grind)
 try simp at k3
 obtain ⟨f3, e⟩ := neg_on2 e (by first | simpa using k3 | grind)
 try simp at f3
 refine EV.seq (EV.seq (EV.regionG tabOK ?_))
 simp (maxSteps := 2000000) -implicitDefEqProofs
 refine EV.condT ?_
 simp -implicitDefEqProofs
 refine condT_intro (fun k4 => ?_) (fun k4 => ?_)
 ·try simp at k4
  obtain ⟨f4, e⟩ := pos_on2 e (by first | simpa using k4 | grind)
  try simp at f4
  refine EV.skip ?_
  simp only [thenK_normal, blockK_normal, scopeK_normal]
  refine EV.condT ?_
  simp -implicitDefEqProofs
  refine EV.seq ?_
  obtain ⟨y11_16, gy11_16⟩ : ∃ z, (p0.l.getD 0 default) = z := ⟨_, rfl⟩
  replace e := bnd_on e gy11_16
  try dsimp only at e
  refine EV.nrm (fun _ : Unit => (⟨[J, J, J, J, .b ((((decide (p1 < 60)) && (decide (p0.name = ([] : List UInt8)))) && (decide ((p0.l.length : Int) = 1))) && (r_rValidTy y11_16 (IntKind.i64.wrap (p1 + 1)))), J, J, J, J, J, J, J, J, J, J, J, J, J, J, J, J, J, J, J, J, J, J, J, J, J, J, J, J, J, J, J, J, J, J, J, J, J, J, J, J, J, J, J, J, J, J, J, J, J, J, J, J, J, J, J, J, J, J, J, J, J], []⟩ : St)) ?_ ?_
  ·skip
   by_cases k6 : p1 < 60
   ·skip
    have kk6 := k6
    try simp at kk6
    by_cases k7 : p0.name = ([] : List UInt8)
    ·skip
     have kk7 := k7
     try simp at kk7
     by_cases k8 : (p0.l.length : Int) = 1
     ·skip
      have kk8 := k8
      try simp at kk8
      have b9 : 0 ≤ 0 ∧ 0 < (p0.l.length : Int) := by omega
      have c9 : 0 < p0.l.length := by omega
      have hy11_16 : p0.l[0] = y11_16 := by rw [← gy11_16, List.getD_eq_getElem?_getD, List.getElem?_eq_getElem c9]; rfl
      have my11_16 : y11_16 ∈ p0.l := by rw [← hy11_16]; exact List.getElem_mem _
      have zzy11_16 := List.sizeOf_lt_of_mem my11_16
      have := sz_TyD_l p0
      refine EV.regionG tabOK ?_
      simp (maxSteps := 2000000) -implicitDefEqProofs +contextual [k6, kk6, k7, kk7, k8, kk8, b9, c9, hy11_16]
      refine callG_fun (H_rValidTy y11_16 (IntKind.i64.wrap (p1 + 1)) (by first | omega | (simp at *; omega))) ?_ ?_
      ·first | (simp; done) | (simp [k6, kk6, k7, kk7, k8, kk8, b9, c9, hy11_16]; done)
      simp (maxSteps := 2000000) -implicitDefEqProofs +contextual [k6, kk6, k7, kk7, k8, kk8, b9, c9, hy11_16]
      refine ⟨(), ?_⟩
      try dsimp only
      refine Sub.cutF 0 (by simp) ?_ ?_ <;> simp [List.range_succ, toIdx_range, passed, k6, kk6, k7, kk7, k8, kk8, b9, c9, hy11_16]
     have kk8 := k8
     try simp at kk8
     refine EV.regionG tabOK ?_
     simp (maxSteps := 2000000) -implicitDefEqProofs +contextual [k6, kk6, k7, kk7, k8, kk8]
     refine ⟨(), ?_⟩
     try dsimp only
     refine Sub.cutF 0 (by simp) ?_ ?_ <;> simp [List.range_succ, toIdx_range, passed, k6, kk6, k7, kk7, k8, kk8]
    have kk7 := k7
    try simp at kk7
    refine EV.regionG tabOK ?_
    simp (maxSteps := 2000000) -implicitDefEqProofs +contextual [k6, kk6, k7, kk7]
    refine ⟨(), ?_⟩
    try dsimp only
    refine Sub.cutF 0 (by simp) ?_ ?_ <;> simp [List.range_succ, toIdx_range, passed, k6, kk6, k7, kk7]
   have kk6 := k6
   try simp at kk6
   refine EV.regionG tabOK ?_
   simp (maxSteps := 2000000) -implicitDefEqProofs +contextual [k6, kk6]
   refine ⟨(), ?_⟩
   try dsimp only
   refine Sub.cutF 0 (by simp) ?_ ?_ <;> simp [List.range_succ, toIdx_range, passed, k6, kk6]
  rintro _
  simp only [thenK_normal, blockK_normal, scopeK_normal, bodyK_normal]
  refine EV.ret ?_
  simp only [thenK_ret, blockK_ret, scopeK_ret, bodyK_ret]
  subst e
  refine Fin.pure0 ?_
  first | (simp; done) | (simp <;> grind)
 try simp at k4
 obtain ⟨f4, e⟩ := neg_on2 e (by first | simpa using k4 | grind)
 try simp at f4
 refine EV.seq (EV.regionG tabOK ?_)
 simp (maxSteps := 2000000) -implicitDefEqProofs
 refine EV.condT ?_
 simp -implicitDefEqProofs
 refine condT_intro (fun k10 => ?_) (fun k10 => ?_)
 ·try simp at k10
  obtain ⟨f10, e⟩ := pos_on2 e (by first | simpa using k10 | grind)
  try simp at f10
  refine EV.skip ?_
  simp only [thenK_normal, blockK_normal, scopeK_normal]
  refine EV.condT ?_
  simp -implicitDefEqProofs
  refine EV.seq ?_
  obtain ⟨y11_16, gy11_16⟩ : ∃ z, (p0.l.getD 0 default) = z := ⟨_, rfl⟩
  replace e := bnd_on e gy11_16
  try dsimp only at e
  refine EV.nrm (fun _ : Unit => (⟨[J, J, J, J, .b ((((decide (p1 < 60)) && (decide (p0.name = ([] : List UInt8)))) && (decide ((p0.l.length : Int) = 1))) && (r_rValidTy y11_16 (IntKind.i64.wrap (p1 + 1)))), J, J, J, J, J, J, J, J, J, J, J, J, J, J, J, J, J, J, J, J, J, J, J, J, J, J, J, J, J, J, J, J, J, J, J, J, J, J, J, J, J, J, J, J, J, J, J, J, J, J, J, J, J, J, J, J, J, J, J, J, J], []⟩ : St)) ?_ ?_
  ·skip
   by_cases k12 : p1 < 60
   ·skip
    have kk12 := k12
    try simp at kk12
    by_cases k13 : p0.name = ([] : List UInt8)
    ·skip
     have kk13 := k13
     try simp at kk13
     by_cases k14 : (p0.l.length : Int) = 1
     ·skip
      have kk14 := k14
      try simp at kk14
      have b15 : 0 ≤ 0 ∧ 0 < (p0.l.length : Int) := by omega
      have c15 : 0 < p0.l.length := by omega
      have hy11_16 : p0.l[0] = y11_16 := by rw [← gy11_16, List.getD_eq_getElem?_getD, List.getElem?_eq_getElem c15]; rfl
      have my11_16 : y11_16 ∈ p0.l := by rw [← hy11_16]; exact List.getElem_mem _
      have zzy11_16 := List.sizeOf_lt_of_mem my11_16
      have := sz_TyD_l p0
      refine EV.regionG tabOK ?_
      simp (maxSteps := 2000000) -implicitDefEqProofs +contextual [k12, kk12, k13, kk13, k14, kk14, b15, c15, hy11_16]
      refine callG_fun (H_rValidTy y11_16 (IntKind.i64.wrap (p1 + 1)) (by first | omega | (simp at *; omega))) ?_ ?_
      ·first | (simp; done) | (simp [k12, kk12, k13, kk13, k14, kk14, b15, c15, hy11_16]; done)
      simp (maxSteps := 2000000) -implicitDefEqProofs +contextual [k12, kk12, k13, kk13, k14, kk14, b15, c15, hy11_16]
      refine ⟨(), ?_⟩
      try dsimp only
      refine Sub.cutF 0 (by simp) ?_ ?_ <;> simp [List.range_succ, toIdx_range, passed, k12, kk12, k13, kk13, k14, kk14, b15, c15, hy11_16]
     have kk14 := k14
     try simp at kk14
     refine EV.regionG tabOK ?_
     simp (maxSteps := 2000000) -implicitDefEqProofs +contextual [k12, kk12, k13, kk13, k14, kk14]
     refine ⟨(), ?_⟩
     try dsimp only
     refine Sub.cutF 0 (by simp) ?_ ?_ <;> simp [List.range_succ, toIdx_range, passed, k12, kk12, k13, kk13, k14, kk14]
    have kk13 := k13
    try simp at kk13
    refine EV.regionG tabOK ?_
    simp (maxSteps := 2000000) -implicitDefEqProofs +contextual [k12, kk12, k13, kk13]
    refine ⟨(), ?_⟩
    try dsimp only
    refine Sub.cutF 0 (by simp) ?_ ?_ <;> simp [List.range_succ, toIdx_range, passed, k12, kk12, k13, kk13]
   have kk12 := k12
   try simp at kk12
   refine EV.regionG tabOK ?_
   simp (maxSteps := 2000000) -implicitDefEqProofs +contextual [k12, kk12]
   refine ⟨(), ?_⟩
   try dsimp only
   refine Sub.cutF 0 (by simp) ?_ ?_ <;> simp [List.range_succ, toIdx_range, passed, k12, kk12]
  rintro _
  simp only [thenK_normal, blockK_normal, scopeK_normal, bodyK_normal]
  refine EV.ret ?_
  simp only [thenK_ret, blockK_ret, scopeK_ret, bodyK_ret]
  subst e
  refine Fin.pure0 ?_
  first | (simp; done) | (simp <;> grind)
 try simp at k10
 obtain ⟨f10, e⟩ := neg_on2 e (by first | simpa using k10 | grind)
 try simp at f10
 refine EV.regionG tabOK ?_
 simp (maxSteps := 2000000) -implicitDefEqProofs
 refine EV.condT ?_
 simp -implicitDefEqProofs
 refine condT_intro (fun k16 => ?_) (fun k16 => ?_)
 ·try simp at k16
  obtain ⟨f16, e⟩ := pos_on2 e (by first | simpa using k16 | grind)
  try simp at f16
  refine EV.seq ?_
  obtain ⟨y11_16, gy11_16⟩ : ∃ z, (p0.l.getD 0 default) = z := ⟨_, rfl⟩
  replace e := bnd_on e gy11_16
  try dsimp only at e
  refine EV.nrm (fun _ : Unit => (⟨[J, J, J, J, .b ((((decide (p1 < 60)) && (decide (p0.name = ([] : List UInt8)))) && (decide ((p0.l.length : Int) = 1))) && (r_rValidTy y11_16 (IntKind.i64.wrap (p1 + 1)))), J, J, J, J, J, J, J, J, J, J, J, J, J, J, J, J, J, J, J, J, J, J, J, J, J, J, J, J, J, J, J, J, J, J, J, J, J, J, J, J, J, J, J, J, J, J, J, J, J, J, J, J, J, J, J, J, J, J, J, J, J], []⟩ : St)) ?_ ?_
  ·skip
   by_cases k18 : p1 < 60
   ·skip
    have kk18 := k18
    try simp at kk18
    by_cases k19 : p0.name = ([] : List UInt8)
    ·skip
     have kk19 := k19
     try simp at kk19
     by_cases k20 : (p0.l.length : Int) = 1
     ·skip
      have kk20 := k20
      try simp at kk20
      have b21 : 0 ≤ 0 ∧ 0 < (p0.l.length : Int) := by omega
      have c21 : 0 < p0.l.length := by omega
      have hy11_16 : p0.l[0] = y11_16 := by rw [← gy11_16, List.getD_eq_getElem?_getD, List.getElem?_eq_getElem c21]; rfl
      have my11_16 : y11_16 ∈ p0.l := by rw [← hy11_16]; exact List.getElem_mem _
      have zzy11_16 := List.sizeOf_lt_of_mem my11_16
      have := sz_TyD_l p0
      refine EV.regionG tabOK ?_
      simp (maxSteps := 2000000) -implicitDefEqProofs +contextual [k18, kk18, k19, kk19, k20, kk20, b21, c21, hy11_16]
      refine callG_fun (H_rValidTy y11_16 (IntKind.i64.wrap (p1 + 1)) (by first | omega | (simp at *; omega))) ?_ ?_
      ·first | (simp; done) | (simp [k18, kk18, k19, kk19, k20, kk20, b21, c21, hy11_16]; done)
      simp (maxSteps := 2000000) -implicitDefEqProofs +contextual [k18, kk18, k19, kk19, k20, kk20, b21, c21, hy11_16]
      refine ⟨(), ?_⟩
      try dsimp only
      refine Sub.cutF 0 (by simp) ?_ ?_ <;> simp [List.range_succ, toIdx_range, passed, k18, kk18, k19, kk19, k20, kk20, b21, c21, hy11_16]
     have kk20 := k20
     try simp at kk20
     refine EV.regionG tabOK ?_
     simp (maxSteps := 2000000) -implicitDefEqProofs +contextual [k18, kk18, k19, kk19, k20, kk20]
     refine ⟨(), ?_⟩
     try dsimp only
     refine Sub.cutF 0 (by simp) ?_ ?_ <;> simp [List.range_succ, toIdx_range, passed, k18, kk18, k19, kk19, k20, kk20]
    have kk19 := k19
    try simp at kk19
    refine EV.regionG tabOK ?_
    simp (maxSteps := 2000000) -implicitDefEqProofs +contextual [k18, kk18, k19, kk19]
    refine ⟨(), ?_⟩
    try dsimp only
    refine Sub.cutF 0 (by simp) ?_ ?_ <;> simp [List.range_succ, toIdx_range, passed, k18, kk18, k19, kk19]
   have kk18 := k18
   try simp at kk18
   refine EV.regionG tabOK ?_
   simp (maxSteps := 2000000) -implicitDefEqProofs +contextual [k18, kk18]
   refine ⟨(), ?_⟩
   try dsimp only
   refine Sub.cutF 0 (by simp) ?_ ?_ <;> simp [List.range_succ, toIdx_range, passed, k18, kk18]
  rintro _
  simp only [thenK_normal, blockK_normal, scopeK_normal, bodyK_normal]
  refine EV.ret ?_
  simp only [thenK_ret, blockK_ret, scopeK_ret, bodyK_ret]
  subst e
  refine Fin.pure0 ?_
  first | (simp; done) | (simp <;> grind)
 try simp at k16
 obtain ⟨f16, e⟩ := neg_on2 e (by first | simpa using k16 | grind)
 try simp at f16
 refine EV.skip ?_
 simp only [thenK_normal, blockK_normal, scopeK_normal]
 refine EV.seq (EV.regionG tabOK ?_)
 simp (maxSteps := 2000000) -implicitDefEqProofs
 refine EV.ret ?_
 simp only [thenK_ret, blockK_ret, scopeK_ret, bodyK_ret]
 subst e
 refine Fin.pure0 ?_
 first | (simp; done) | (simp <;> grind)

def rValidTy_f : Nat → TyD → Int → Bool
 | 0, _, _ => default
 | k + 1, p0, p1 => rValidTy_b (rValidTy_f k) p0 p1
def rValidTy (p0 : TyD) (p1 : Int) : Bool := rValidTy_f (SizeOf.sizeOf p0 + 1) p0 p1
theorem w_rValidTy_f : ∀ k : Nat, (∀ (p0 : TyD) (p1 : Int), SizeOf.sizeOf p0 < k → QC prog 41 [.agg [.i .i64 p0.k, .s p0.name, .ro 3 (p0.l.map tyC)], .i .i64 p1] [] (.b (rValidTy_f k p0 p1)) [])
 | 0 => by refine (fun _ _ h => absurd h (Nat.not_lt_zero _))
 | k + 1 => by refine (fun p0 p1 h => by rw [rValidTy_f]; exact w_rValidTy_b (rValidTy_f k) p0 p1 k (w_rValidTy_f k) (by omega))
theorem w_rValidTy (p0 : TyD) (p1 : Int) : QC prog 41 [.agg [.i .i64 p0.k, .s p0.name, .ro 3 (p0.l.map tyC)], .i .i64 p1] [] (.b (rValidTy p0 p1)) [] := (w_rValidTy_f (SizeOf.sizeOf p0 + 1)) p0 p1 (Nat.lt_succ_self _)

def rValidPlace_l4  : List StepD → Ctl (Bool) (Unit)
 | [] => .go ()
 | x4 :: xs4 => (if (¬ (x4.field = ([] : List UInt8))) ∧ (¬ ((rSmall x4.field) = true)) then .ret false else rValidPlace_l4 xs4)
def rValidPlace (p0 : PlaceD) (p1 : Bool) : Bool :=
 (if (¬ ((rSmall p0.name) = true)) ∨ ((p1 = true) ∧ (0 < (p0.path.length : Int))) then false else (Ctl.run (rValidPlace_l4 p0.path) fun (v4 : Unit) => true))
set_option maxHeartbeats 40000000 in
theorem w_rValidPlace (p0 : PlaceD) (p1 : Bool)  : QC prog 174 [.agg [.s p0.name, .ro 1 (p0.path.map stepC)], .b p1] [] (.b (rValidPlace p0 p1)) [] := by
 refine QC.of_body tabOK func174 rfl (by kernel_rfl) ?_
 simp only [f174]
 generalize e : rValidPlace p0 p1 = R
 unfold rValidPlace at e
 refine EV.seq (EV.regionG tabOK ?_)
 simp (maxSteps := 2000000) -implicitDefEqProofs
 refine EV.seq (EV.seq (EV.regionG tabOK ?_))
 simp (maxSteps := 2000000) -implicitDefEqProofs +contextual
 refine callG_fun (w_rSmall p0.name) ?_ ?_
 ·simp
 simp (maxSteps := 2000000) -implicitDefEqProofs +contextual
 refine EV.condT ?_
 simp -implicitDefEqProofs
 refine condT_intro (fun k1 => ?_) (fun k1 => ?_)
 ·try simp at k1
  obtain ⟨f1, e⟩ := pos_on2 e (by first | simpa using k1 | grind)
  try simp at f1
  refine EV.seq (EV.regionG tabOK ?_)
  simp (maxSteps := 2000000) -implicitDefEqProofs
  refine EV.ret ?_
  simp only [thenK_ret, blockK_ret, scopeK_ret, bodyK_ret]
  subst e
  refine Fin.pure0 ?_
  first | (simp; done) | (simp <;> grind)
 try simp at k1
 obtain ⟨f1, e⟩ := neg_on2 e (by first | simpa using k1 | grind)
 try simp at f1
 refine EV.skip ?_
 simp only [thenK_normal, blockK_normal, scopeK_normal]
 refine EV.seq (EV.seq (EV.regionG tabOK ?_))
 simp (maxSteps := 2000000) -implicitDefEqProofs
 obtain ⟨z4, e4, e⟩ := run_split e
 refine EV.nrm (fun v : { v : (Unit) × (Unit) // z4 = .go v.1 } => (fun (v4 : Unit) (g4 : Unit) => (⟨[J, J, J, J, J, J, J, J, J, J, J, J, J, J, J, J, J, J, J, J, J, J, J, J, J, J, J, J, J, J, J, J, J, J, J, J, J, J, J, J], []⟩ : St)) v.1.1 v.1.2) ?_ ?_
 ·skip
  refine EV.block ?_
  refine EV.loopB (fun x : { x : Nat // x ≤ p0.path.length ∧ rValidPlace_l4 (p0.path.drop x) = z4 } => (fun (j4 : Nat) => (⟨[J, J, .ptr 0 0 0 0, J, J, .i .i64 (j4 : Int), J, J, J, J, J, J, J, J, J, J, J, J, J, J, J, J, J, J, J, J, J, J, J, J, J, J, J, J, J, J, J, J, J, J], [.arr 0 2 [[.s p0.name, .ro 1 (p0.path.map stepC)]]]⟩ : St)) x.1) (fun x => p0.path.length - x.1) ⟨0, Nat.zero_le _, e4⟩ ?_ ?_
  ·skip
   try dsimp only
   try dsimp only
   refine Sub.cutF 1 (by simp) ?_ ?_ <;> simp [List.range_succ, toIdx_range, passed]
  rintro ⟨j4, hi4, e4⟩
  simp only at hi4 e4 ⊢
  refine EV.seq (EV.seq (EV.regionG tabOK ?_))
  simp (maxSteps := 2000000) -implicitDefEqProofs
  refine EV.room 22 (by rfl) (fun mj4 => ?_)
  simp at mj4
  refine EV.condT ?_
  simp -implicitDefEqProofs
  refine condT_intro (fun k2 => ?_) (fun k2 => ?_)
  ·try simp at k2
   have u2 : j4 < p0.path.length := by omega
   obtain ⟨x4, hx4⟩ : ∃ z, p0.path[j4] = z := ⟨_, rfl⟩
   have mx4 : x4 ∈ p0.path := by rw [← hx4]; exact List.getElem_mem _
   rw [List.drop_eq_getElem_cons u2, hx4, rValidPlace_l4] at e4
   refine EV.skip ?_
   simp only [thenK_normal, blockK_normal, scopeK_normal]
   refine EV.seq (EV.block (EV.seq (EV.regionG tabOK ?_)))
   simp (maxSteps := 2000000) -implicitDefEqProofs [k2, u2, hx4]
   refine EV.seq ?_
   refine EV.nrm (fun _ : Unit => (⟨[J, J, .ptr 0 0 0 0, J, J, .i .i64 (j4 : Int), J, J, J, J, J, J, J, J, J, J, J, J, J, J, J, J, J, J, J, J, J, J, J, J, J, J, J, J, J, J, J, J, J, .b ((!(decide (x4.field = ([] : List UInt8)))) && (!(rSmall x4.field)))], [.arr 0 2 [[.s p0.name, .ro 1 (p0.path.map stepC)]]]⟩ : St)) ?_ ?_
   ·skip
    by_cases k4 : x4.field = ([] : List UInt8)
    ·skip
     have kk4 := k4
     try simp at kk4
     refine EV.regionG tabOK ?_
     simp (maxSteps := 2000000) -implicitDefEqProofs +contextual [k2, u2, hx4, k4, kk4]
     refine ⟨(), ?_⟩
     try dsimp only
     refine Sub.cutF 1 (by simp) ?_ ?_ <;> simp [List.range_succ, toIdx_range, passed, k2, u2, hx4, k4, kk4]
    have kk4 := k4
    try simp at kk4
    refine EV.regionG tabOK ?_
    simp (maxSteps := 2000000) -implicitDefEqProofs +contextual [k2, u2, hx4, k4, kk4]
    refine callG_fun (w_rSmall x4.field) ?_ ?_
    ·first | (simp; done) | (simp [k2, u2, hx4, k4, kk4]; done)
    simp (maxSteps := 2000000) -implicitDefEqProofs +contextual [k2, u2, hx4, k4, kk4]
    refine ⟨(), ?_⟩
    try dsimp only
    refine Sub.cutF 1 (by simp) ?_ ?_ <;> simp [List.range_succ, toIdx_range, passed, k2, u2, hx4, k4, kk4]
   rintro _
   simp only [thenK_normal, blockK_normal, scopeK_normal, bodyK_normal]
   refine EV.condT ?_
   simp -implicitDefEqProofs [k2, u2, hx4]
   refine condT_intro (fun k5 => ?_) (fun k5 => ?_)
   ·try simp at k5
    obtain ⟨f5, e4⟩ := pos_on2 e4 (by first | simpa using k5 | grind)
    try simp at f5
    refine EV.seq (EV.regionG tabOK ?_)
    simp (maxSteps := 2000000) -implicitDefEqProofs [k2, u2, hx4]
    refine EV.ret ?_
    simp only [thenK_ret, blockK_ret, scopeK_ret, bodyK_ret]
    replace e := run_back e e4
    subst e
    refine Fin.pure0 ?_
    first | (simp; done) | (simp <;> grind)
   try simp at k5
   obtain ⟨f5, e4⟩ := neg_on2 e4 (by first | simpa using k5 | grind)
   try simp at f5
   refine EV.skip ?_
   simp only [thenK_normal, blockK_normal, scopeK_normal]
   refine EV.regionG tabOK ?_
   simp (maxSteps := 2000000) -implicitDefEqProofs [k2, u2, hx4]
   have w4 : IntKind.i64.wrap ((j4 : Int) + 1) = (j4 : Int) + 1 := wrap_in _ (by omega) (by omega)
   refine ⟨⟨j4 + 1, by omega, e4⟩, by dsimp only; omega, ?_⟩
   try dsimp only
   refine Sub.cutF 1 (by simp) ?_ ?_ <;> simp [List.range_succ, toIdx_range, passed, k2, u2, hx4, w4]
  try simp at k2
  have d2 : p0.path.drop j4 = [] := List.drop_eq_nil_of_le (by omega)
  rw [d2, rValidPlace_l4] at e4
  refine EV.exit ?_
  simp -implicitDefEqProofs
  refine ⟨⟨((), ()), e4.symm⟩, ?_⟩
  try dsimp only
  refine Sub.cutF 0 (by simp) ?_ ?_ <;> simp [List.range_succ, toIdx_range, passed]
 rintro ⟨⟨v4, g4⟩, e4⟩
 simp only [thenK_normal, blockK_normal, scopeK_normal, bodyK_normal]
 replace e := run_on e e4
 try dsimp only at e
 refine EV.seq (EV.regionG tabOK ?_)
 simp (maxSteps := 2000000) -implicitDefEqProofs
 refine EV.ret ?_
 simp only [thenK_ret, blockK_ret, scopeK_ret, bodyK_ret]
 subst e
 refine Fin.pure0 ?_
 first | (simp; done) | (simp <;> grind)


def rNoPlace (p0 : PlaceD) : Bool :=
 ((decide (p0.name = ([] : List UInt8))) && (decide ((p0.path.length : Int) = 0)))
set_option maxHeartbeats 40000000 in
theorem w_rNoPlace (p0 : PlaceD)  : QC prog 170 [.agg [.s p0.name, .ro 1 (p0.path.map stepC)]] [] (.b (rNoPlace p0)) [] := by
 refine QC.of_body tabOK func170 rfl (by kernel_rfl) ?_
 simp only [f170]
 generalize e : rNoPlace p0 = R
 unfold rNoPlace at e
 refine EV.seq (EV.regionG tabOK ?_)
 simp (maxSteps := 2000000) -implicitDefEqProofs
 refine EV.seq (EV.regionG tabOK ?_)
 simp (maxSteps := 2000000) -implicitDefEqProofs +contextual
 refine EV.ret ?_
 simp only [thenK_ret, blockK_ret, scopeK_ret, bodyK_ret]
 subst e
 refine Fin.pure0 ?_
 first | (simp; done) | (simp <;> grind)


def rValidOper (p0 : OperD) : Bool :=
 (if p0.num = true then ((rNoPlace p0.p) && (!(decide (p0.n = (-9223372036854775808))))) else ((decide (p0.n = 0)) && (rValidPlace p0.p false)))
set_option maxHeartbeats 40000000 in
theorem w_rValidOper (p0 : OperD)  : QC prog 175 [.agg [.b p0.num, .i .i64 p0.n, .s p0.p.name, .ro 1 (p0.p.path.map stepC)]] [] (.b (rValidOper p0)) [] := by
 refine QC.of_body tabOK func175 rfl (by kernel_rfl) ?_
 simp only [f175]
 generalize e : rValidOper p0 = R
 unfold rValidOper at e
 refine EV.seq (EV.regionG tabOK ?_)
 simp (maxSteps := 2000000) -implicitDefEqProofs
 refine EV.seq (EV.seq (EV.regionG tabOK ?_))
 simp (maxSteps := 2000000) -implicitDefEqProofs
 refine EV.condT ?_
 simp -implicitDefEqProofs
 refine condT_intro (fun k1 => ?_) (fun k1 => ?_)
 ·try simp at k1
  obtain ⟨f1, e⟩ := pos_on2 e (by first | simpa using k1 | grind)
  try simp at f1
  refine EV.seq (EV.regionG tabOK ?_)
  simp (maxSteps := 2000000) -implicitDefEqProofs +contextual
  refine callG_fun (w_rNoPlace p0.p) ?_ ?_
  ·simp
  simp (maxSteps := 2000000) -implicitDefEqProofs +contextual
  refine EV.ret ?_
  simp only [thenK_ret, blockK_ret, scopeK_ret, bodyK_ret]
  subst e
  refine Fin.pure0 ?_
  first | (simp; done) | (simp <;> grind)
 try simp at k1
 obtain ⟨f1, e⟩ := neg_on2 e (by first | simpa using k1 | grind)
 try simp at f1
 refine EV.skip ?_
 simp only [thenK_normal, blockK_normal, scopeK_normal]
 refine EV.seq ?_
 refine EV.nrm (fun _ : Unit => (⟨[J, J, .b ((decide (p0.n = 0)) && (rValidPlace p0.p false)), J, J, J, J, J, J, J, J, J, J, J, J, J, J, J, J, J, J], []⟩ : St)) ?_ ?_
 ·skip
  by_cases k3 : p0.n = 0
  ·skip
   have kk3 := k3
   try simp at kk3
   refine EV.regionG tabOK ?_
   simp (maxSteps := 2000000) -implicitDefEqProofs +contextual [k3, kk3]
   refine callG_fun (w_rValidPlace p0.p false) ?_ ?_
   ·first | (simp; done) | (simp [k3, kk3]; done)
   simp (maxSteps := 2000000) -implicitDefEqProofs +contextual [k3, kk3]
   refine ⟨(), ?_⟩
   try dsimp only
   refine Sub.cutF 0 (by simp) ?_ ?_ <;> simp [List.range_succ, toIdx_range, passed, k3, kk3]
  have kk3 := k3
  try simp at kk3
  refine EV.regionG tabOK ?_
  simp (maxSteps := 2000000) -implicitDefEqProofs +contextual [k3, kk3]
  refine ⟨(), ?_⟩
  try dsimp only
  refine Sub.cutF 0 (by simp) ?_ ?_ <;> simp [List.range_succ, toIdx_range, passed, k3, kk3]
 rintro _
 simp only [thenK_normal, blockK_normal, scopeK_normal, bodyK_normal]
 refine EV.ret ?_
 simp only [thenK_ret, blockK_ret, scopeK_ret, bodyK_ret]
 subst e
 refine Fin.pure0 ?_
 first | (simp; done) | (simp <;> grind)


def rNoOper (p0 : OperD) : Bool :=
 (((!p0.num) && (decide (p0.n = 0))) && (rNoPlace p0.p))
set_option maxHeartbeats 40000000 in
theorem w_rNoOper (p0 : OperD)  : QC prog 172 [.agg [.b p0.num, .i .i64 p0.n, .s p0.p.name, .ro 1 (p0.p.path.map stepC)]] [] (.b (rNoOper p0)) [] := by
 refine QC.of_body tabOK func172 rfl (by kernel_rfl) ?_
 simp only [f172]
 generalize e : rNoOper p0 = R
 unfold rNoOper at e
 refine EV.seq (EV.regionG tabOK ?_)
 simp (maxSteps := 2000000) -implicitDefEqProofs
 refine EV.seq ?_
 refine EV.nrm (fun _ : Unit => (⟨[J, J, .b (((!p0.num) && (decide (p0.n = 0))) && (rNoPlace p0.p)), J, J, J, J, J, J, J, J, J, J, J, J, J], []⟩ : St)) ?_ ?_
 ·skip
  cases k2 : p0.num
  ·skip
   have kk2 := k2
   try simp at kk2
   by_cases k3 : p0.n = 0
   ·skip
    have kk3 := k3
    try simp at kk3
    refine EV.regionG tabOK ?_
    simp (maxSteps := 2000000) -implicitDefEqProofs +contextual [k2, kk2, k3, kk3]
    refine callG_fun (w_rNoPlace p0.p) ?_ ?_
    ·first | (simp; done) | (simp [k2, kk2, k3, kk3]; done)
    simp (maxSteps := 2000000) -implicitDefEqProofs +contextual [k2, kk2, k3, kk3]
    refine ⟨(), ?_⟩
    try dsimp only
    refine Sub.cutF 0 (by simp) ?_ ?_ <;> simp [List.range_succ, toIdx_range, passed, k2, kk2, k3, kk3]
   have kk3 := k3
   try simp at kk3
   refine EV.regionG tabOK ?_
   simp (maxSteps := 2000000) -implicitDefEqProofs +contextual [k2, kk2, k3, kk3]
   refine ⟨(), ?_⟩
   try dsimp only
   refine Sub.cutF 0 (by simp) ?_ ?_ <;> simp [List.range_succ, toIdx_range, passed, k2, kk2, k3, kk3]
  have kk2 := k2
  try simp at kk2
  refine EV.regionG tabOK ?_
  simp (maxSteps := 2000000) -implicitDefEqProofs +contextual [k2, kk2]
  refine ⟨(), ?_⟩
  try dsimp only
  refine Sub.cutF 0 (by simp) ?_ ?_ <;> simp [List.range_succ, toIdx_range, passed, k2, kk2]
 rintro _
 simp only [thenK_normal, blockK_normal, scopeK_normal, bodyK_normal]
 refine EV.ret ?_
 simp only [thenK_ret, blockK_ret, scopeK_ret, bodyK_ret]
 subst e
 refine Fin.pure0 ?_
 first | (simp; done) | (simp <;> grind)


def rNoTy (p0 : TyD) : Bool :=
 (((decide (p0.k = 0)) && (decide (p0.name = ([] : List UInt8)))) && (decide ((p0.l.length : Int) = 0)))
set_option maxHeartbeats 40000000 in
theorem w_rNoTy (p0 : TyD)  : QC prog 40 [.agg [.i .i64 p0.k, .s p0.name, .ro 3 (p0.l.map tyC)]] [] (.b (rNoTy p0)) [] := by
 refine QC.of_body tabOK func40 rfl (by kernel_rfl) ?_
 simp only [f40]
 generalize e : rNoTy p0 = R
 unfold rNoTy at e
 refine EV.seq (EV.regionG tabOK ?_)
 simp (maxSteps := 2000000) -implicitDefEqProofs
 refine EV.seq (EV.regionG tabOK ?_)
 simp (maxSteps := 2000000) -implicitDefEqProofs +contextual
 refine EV.ret ?_
 simp only [thenK_ret, blockK_ret, scopeK_ret, bodyK_ret]
 subst e
 refine Fin.pure0 ?_
 first | (simp; done) | (simp <;> grind)


def rNoRv (p0 : RvD) : Bool :=
 (((((decide (p0.k = 0)) && (decide ((p0.ops.length : Int) = 0))) && (rNoPlace p0.p)) && (decide (p0.name = ([] : List UInt8)))) && (decide (p0.variant = ([] : List UInt8))))
set_option maxHeartbeats 40000000 in
theorem w_rNoRv (p0 : RvD)  : QC prog 171 [.agg [.i .i64 p0.k, .ro 4 (p0.ops.map operC), .s p0.p.name, .ro 1 (p0.p.path.map stepC), .s p0.name, .s p0.variant]] [] (.b (rNoRv p0)) [] := by
 refine QC.of_body tabOK func171 rfl (by kernel_rfl) ?_
 simp only [f171]
 generalize e : rNoRv p0 = R
 unfold rNoRv at e
 refine EV.seq (EV.regionG tabOK ?_)
 simp (maxSteps := 2000000) -implicitDefEqProofs
 refine EV.seq ?_
 refine EV.nrm (fun _ : Unit => (⟨[J, J, .b (((((decide (p0.k = 0)) && (decide ((p0.ops.length : Int) = 0))) && (rNoPlace p0.p)) && (decide (p0.name = ([] : List UInt8)))) && (decide (p0.variant = ([] : List UInt8)))), J, J, J, J, J, J, J, J, J, J, J, J, J, J, J, J, J, J, J, J, J, J, J, J], []⟩ : St)) ?_ ?_
 ·skip
  by_cases k2 : p0.k = 0
  ·skip
   have kk2 := k2
   try simp at kk2
   by_cases k3 : (p0.ops.length : Int) = 0
   ·skip
    have kk3 := k3
    try simp at kk3
    refine EV.regionG tabOK ?_
    simp (maxSteps := 2000000) -implicitDefEqProofs +contextual [k2, kk2, k3, kk3]
    refine callG_fun (w_rNoPlace p0.p) ?_ ?_
    ·first | (simp; done) | (simp [k2, kk2, k3, kk3]; done)
    simp (maxSteps := 2000000) -implicitDefEqProofs +contextual [k2, kk2, k3, kk3]
    refine ⟨(), ?_⟩
    try dsimp only
    refine Sub.cutF 0 (by simp) ?_ ?_ <;> simp [List.range_succ, toIdx_range, passed, k2, kk2, k3, kk3]
   have kk3 := k3
   try simp at kk3
   refine EV.regionG tabOK ?_
   simp (maxSteps := 2000000) -implicitDefEqProofs +contextual [k2, kk2, k3, kk3]
   refine ⟨(), ?_⟩
   try dsimp only
   refine Sub.cutF 0 (by simp) ?_ ?_ <;> simp [List.range_succ, toIdx_range, passed, k2, kk2, k3, kk3]
  have kk2 := k2
  try simp at kk2
  refine EV.regionG tabOK ?_
  simp (maxSteps := 2000000) -implicitDefEqProofs +contextual [k2, kk2]
  refine ⟨(), ?_⟩
  try dsimp only
  refine Sub.cutF 0 (by simp) ?_ ?_ <;> simp [List.range_succ, toIdx_range, passed, k2, kk2]
 rintro _
 simp only [thenK_normal, blockK_normal, scopeK_normal, bodyK_normal]
 refine EV.ret ?_
 simp only [thenK_ret, blockK_ret, scopeK_ret, bodyK_ret]
 subst e
 refine Fin.pure0 ?_
 first | (simp; done) | (simp <;> grind)

def rValidRv_l2  : List OperD → Ctl (Bool) (Unit)
 | [] => .go ()
 | x2 :: xs2 => (if ¬ ((rValidOper x2) = true) then .ret false else rValidRv_l2 xs2)
def rValidRv (p0 : RvD) : Bool :=
 (Ctl.run (rValidRv_l2 p0.ops) fun (v2 : Unit) => (bnd (if p0.k = 0 then true else (if p0.k = 8 then true else (decide (p0.k = 15)))) fun (v11 : Bool) => (if v11 = true then ((((decide (p0.name = ([] : List UInt8))) && (decide (p0.variant = ([] : List UInt8)))) && (decide ((p0.ops.length : Int) = 1))) && (rNoPlace p0.p)) else (bnd (if p0.k = 1 then true else (if p0.k = 2 then true else (if p0.k = 3 then true else (if p0.k = 4 then true else (decide (p0.k = 5)))))) fun (v15 : Bool) => (if v15 = true then ((((decide (p0.name = ([] : List UInt8))) && (decide (p0.variant = ([] : List UInt8)))) && (decide ((p0.ops.length : Int) = 2))) && (rNoPlace p0.p)) else (bnd (if p0.k = 6 then true else (decide (p0.k = 7))) fun (v21 : Bool) => (if v21 = true then ((((decide (p0.name = ([] : List UInt8))) && (decide (p0.variant = ([] : List UInt8)))) && (decide ((p0.ops.length : Int) = 0))) && (rValidPlace p0.p false)) else (bnd (if p0.k = 9 then true else (if p0.k = 13 then true else (decide (p0.k = 14)))) fun (v24 : Bool) => (if v24 = true then ((((decide (p0.name = ([] : List UInt8))) && (decide (p0.variant = ([] : List UInt8)))) && (decide ((p0.ops.length : Int) = 0))) && (rValidPlace p0.p true)) else (if p0.k = 10 then (((rGreat p0.name) && (decide (p0.variant = ([] : List UInt8)))) && (rNoPlace p0.p)) else (if p0.k = 11 then ((((rGreat p0.name) && (rGreat p0.variant)) && (decide ((p0.ops.length : Int) ≤ 1))) && (rNoPlace p0.p)) else (if p0.k = 12 then (((rSmall p0.name) && (decide (p0.variant = ([] : List UInt8)))) && (rNoPlace p0.p)) else false))))))))))))
set_option maxHeartbeats 40000000 in
theorem w_rValidRv (p0 : RvD)  : QC prog 173 [.agg [.i .i64 p0.k, .ro 4 (p0.ops.map operC), .s p0.p.name, .ro 1 (p0.p.path.map stepC), .s p0.name, .s p0.variant]] [] (.b (rValidRv p0)) [] := by
 refine QC.of_body tabOK func173 rfl (by kernel_rfl) ?_
 simp only [f173]
 generalize e : rValidRv p0 = R
 unfold rValidRv at e
 refine EV.seq (EV.regionG tabOK ?_)
 simp (maxSteps := 2000000) -implicitDefEqProofs
 refine EV.seq (EV.seq (EV.regionG tabOK ?_))
 simp (maxSteps := 2000000) -implicitDefEqProofs
 obtain ⟨z2, e2, e⟩ := run_split e
 refine EV.nrm (fun v : { v : (Unit) × (Unit) // z2 = .go v.1 } => (fun (v2 : Unit) (g2 : Unit) => (⟨[J, .ptr 0 0 0 0, J, J, J, J, J, J, J, J, J, J, J, J, J, J, J, J, J, J, J, J, J, J, J, J, J, J, J, J, J, J, J, J, J, J, J, J, J, J, J, J, J, J, J, J, J, J, J, J, J, J, J, J, J, J, J, J, J, J, J, J, J, J, J, J, J, J, J, J, J, J, J, J, J, J, J, J, J, J, J, J, J, J, J, J, J, J, J, J, J, J, J, J, J, J, J, J, J, J, J, J, J, J, J, J, J, J, J, J, J, J, J, J, J, J, J, J, J, J, J, J, J, J, J, J, J, J, J, J, J, J, J, J, J, J, J, J, J, J, J], [.arr 0 6 [[.i .i64 p0.k, .ro 4 (p0.ops.map operC), .s p0.p.name, .ro 1 (p0.p.path.map stepC), .s p0.name, .s p0.variant]]]⟩ : St)) v.1.1 v.1.2) ?_ ?_
 ·skip
  refine EV.block ?_
  refine EV.loopB (fun x : { x : Nat // x ≤ p0.ops.length ∧ rValidRv_l2 (p0.ops.drop x) = z2 } => (fun (j2 : Nat) => (⟨[J, .ptr 0 0 0 0, J, .i .i64 (j2 : Int), J, J, J, J, J, J, J, J, J, J, J, J, J, J, J, J, J, J, J, J, J, J, J, J, J, J, J, J, J, J, J, J, J, J, J, J, J, J, J, J, J, J, J, J, J, J, J, J, J, J, J, J, J, J, J, J, J, J, J, J, J, J, J, J, J, J, J, J, J, J, J, J, J, J, J, J, J, J, J, J, J, J, J, J, J, J, J, J, J, J, J, J, J, J, J, J, J, J, J, J, J, J, J, J, J, J, J, J, J, J, J, J, J, J, J, J, J, J, J, J, J, J, J, J, J, J, J, J, J, J, J, J, J, J, J, J, J], [.arr 0 6 [[.i .i64 p0.k, .ro 4 (p0.ops.map operC), .s p0.p.name, .ro 1 (p0.p.path.map stepC), .s p0.name, .s p0.variant]]]⟩ : St)) x.1) (fun x => p0.ops.length - x.1) ⟨0, Nat.zero_le _, e2⟩ ?_ ?_
  ·skip
   try dsimp only
   try dsimp only
   refine Sub.cutF 1 (by simp) ?_ ?_ <;> simp [List.range_succ, toIdx_range, passed]
  rintro ⟨j2, hi2, e2⟩
  simp only at hi2 e2 ⊢
  refine EV.seq (EV.seq (EV.regionG tabOK ?_))
  simp (maxSteps := 2000000) -implicitDefEqProofs
  refine EV.room 9 (by rfl) (fun mj2 => ?_)
  simp at mj2
  refine EV.condT ?_
  simp -implicitDefEqProofs
  refine condT_intro (fun k1 => ?_) (fun k1 => ?_)
  ·try simp at k1
   have u1 : j2 < p0.ops.length := by omega
   obtain ⟨x2, hx2⟩ : ∃ z, p0.ops[j2] = z := ⟨_, rfl⟩
   have mx2 : x2 ∈ p0.ops := by rw [← hx2]; exact List.getElem_mem _
   rw [List.drop_eq_getElem_cons u1, hx2, rValidRv_l2] at e2
   refine EV.skip ?_
   simp only [thenK_normal, blockK_normal, scopeK_normal]
   refine EV.seq (EV.block (EV.seq (EV.regionG tabOK ?_)))
   simp (maxSteps := 2000000) -implicitDefEqProofs [k1, u1, hx2]
   refine callG_fun (w_rValidOper x2) ?_ ?_
   ·first | (simp; done) | (simp [k1, u1, hx2]; done)
   simp (maxSteps := 2000000) -implicitDefEqProofs [k1, u1, hx2]
   refine EV.seq (EV.regionG tabOK ?_)
   simp (maxSteps := 2000000) -implicitDefEqProofs [k1, u1, hx2]
   refine EV.condT ?_
   simp -implicitDefEqProofs [k1, u1, hx2]
   refine condT_intro (fun k2 => ?_) (fun k2 => ?_)
   ·try simp at k2
    obtain ⟨f2, e2⟩ := pos_on2 e2 (by first | simpa using k2 | grind)
    try simp at f2
    refine EV.seq (EV.regionG tabOK ?_)
    simp (maxSteps := 2000000) -implicitDefEqProofs [k1, u1, hx2]
    refine EV.ret ?_
    simp only [thenK_ret, blockK_ret, scopeK_ret, bodyK_ret]
    replace e := run_back e e2
    subst e
    refine Fin.pure0 ?_
    first | (simp; done) | (simp <;> grind)
   try simp at k2
   obtain ⟨f2, e2⟩ := neg_on2 e2 (by first | simpa using k2 | grind)
   try simp at f2
   refine EV.skip ?_
   simp only [thenK_normal, blockK_normal, scopeK_normal]
   refine EV.regionG tabOK ?_
   simp (maxSteps := 2000000) -implicitDefEqProofs [k1, u1, hx2]
   have w2 : IntKind.i64.wrap ((j2 : Int) + 1) = (j2 : Int) + 1 := wrap_in _ (by omega) (by omega)
   refine ⟨⟨j2 + 1, by omega, e2⟩, by dsimp only; omega, ?_⟩
   try dsimp only
   refine Sub.cutF 1 (by simp) ?_ ?_ <;> simp [List.range_succ, toIdx_range, passed, k1, u1, hx2, w2]
  try simp at k1
  have d1 : p0.ops.drop j2 = [] := List.drop_eq_nil_of_le (by omega)
  rw [d1, rValidRv_l2] at e2
  refine EV.exit ?_
  simp -implicitDefEqProofs
  refine ⟨⟨((), ()), e2.symm⟩, ?_⟩
  try dsimp only
  refine Sub.cutF 1 (by simp) ?_ ?_ <;> simp [List.range_succ, toIdx_range, passed]
 ·skip
  rintro ⟨⟨v2, g2⟩, e2⟩
  simp only [thenK_normal, blockK_normal, scopeK_normal, bodyK_normal]
  replace e := run_on e e2
  try dsimp only at e
  refine EV.seq (EV.regionG tabOK ?_)
  simp (maxSteps := 2000000) -implicitDefEqProofs
  refine EV.seq (EV.regionG tabOK ?_)
  simp (maxSteps := 2000000) -implicitDefEqProofs +contextual
  refine EV.seq (EV.seq (EV.regionG tabOK ?_))
  simp (maxSteps := 2000000) -implicitDefEqProofs
  refine EV.block (EV.seq (EV.seq (EV.regionG tabOK ?_)))
  simp (maxSteps := 2000000) -implicitDefEqProofs
  obtain ⟨z11, e11, e⟩ := bnd_split e
  refine EV.nrm (fun v : { v : (Bool) × (Unit) // z11 = v.1 } => (fun (v11 : Bool) (g11 : Unit) => (⟨[J, .ptr 0 0 0 0, J, J, J, .i .i64 (p0.ops.length : Int), .b ((decide (p0.name = ([] : List UInt8))) && (decide (p0.variant = ([] : List UInt8)))), J, J, J, J, J, J, J, J, J, J, J, J, J, J, J, J, J, J, J, J, J, J, J, J, J, J, J, .i .i64 p0.k, .b v11, J, J, J, J, J, J, J, J, J, J, J, J, J, J, J, J, J, J, J, J, J, J, J, J, J, J, J, J, J, J, J, J, J, J, J, J, J, J, J, J, J, J, J, J, J, J, J, J, J, J, J, J, J, J, J, J, J, J, J, J, J, J, J, J, J, J, J, J, J, J, J, J, J, J, J, J, J, J, J, J, J, J, J, J, J, J, J, J, J, J, J, J, J, J, J, J, J, J, J, J, J, J, J, J, J], [.arr 0 6 [[.i .i64 p0.k, .ro 4 (p0.ops.map operC), .s p0.p.name, .ro 1 (p0.p.path.map stepC), .s p0.name, .s p0.variant]]]⟩ : St)) v.1.1 v.1.2) ?_ ?_
  ·skip
   refine EV.condT ?_
   simp -implicitDefEqProofs
   refine condT_intro (fun k3 => ?_) (fun k3 => ?_)
   ·try simp at k3
    obtain ⟨f3, e11⟩ := pos_on2 e11 (by first | simpa using k3 | grind)
    try simp at f3
    refine EV.skip ?_
    simp only [thenK_normal, blockK_normal, scopeK_normal]
    refine ⟨⟨(true, ()), e11.symm⟩, ?_⟩
    try dsimp only
    refine Sub.cutF 1 (by simp) ?_ ?_ <;> simp [List.range_succ, toIdx_range, passed]
   try simp at k3
   obtain ⟨f3, e11⟩ := neg_on2 e11 (by first | simpa using k3 | grind)
   try simp at f3
   refine EV.seq (EV.regionG tabOK ?_)
   simp (maxSteps := 2000000) -implicitDefEqProofs
   refine EV.condT ?_
   simp -implicitDefEqProofs
   refine condT_intro (fun k4 => ?_) (fun k4 => ?_)
   ·try simp at k4
    obtain ⟨f4, e11⟩ := pos_on2 e11 (by first | simpa using k4 | grind)
    try simp at f4
    refine EV.skip ?_
    simp only [thenK_normal, blockK_normal, scopeK_normal]
    refine ⟨⟨(true, ()), e11.symm⟩, ?_⟩
    try dsimp only
    refine Sub.cutF 1 (by simp) ?_ ?_ <;> simp [List.range_succ, toIdx_range, passed]
   try simp at k4
   obtain ⟨f4, e11⟩ := neg_on2 e11 (by first | simpa using k4 | grind)
   try simp at f4
   refine EV.regionG tabOK ?_
   simp (maxSteps := 2000000) -implicitDefEqProofs
   refine ⟨⟨((decide (p0.k = 15)), ()), e11.symm⟩, ?_⟩
   try dsimp only
   refine Sub.cutF 1 (by simp) ?_ ?_ <;> simp [List.range_succ, toIdx_range, passed]
  ·skip
   rintro ⟨⟨v11, g11⟩, e11⟩
   simp only [thenK_normal, blockK_normal, scopeK_normal, bodyK_normal]
   replace e := bnd_on e e11
   try dsimp only at e
   refine EV.condT ?_
   simp -implicitDefEqProofs
   refine condT_intro (fun k5 => ?_) (fun k5 => ?_)
   ·try simp at k5
    obtain ⟨f5, e⟩ := pos_on2 e (by first | simpa using k5 | grind)
    try simp at f5
    refine EV.seq ?_
    refine EV.nrm (fun _ : Unit => (⟨[J, J, .b ((((decide (p0.name = ([] : List UInt8))) && (decide (p0.variant = ([] : List UInt8)))) && (decide ((p0.ops.length : Int) = 1))) && (rNoPlace p0.p)), J, J, J, J, J, J, J, J, J, J, J, J, J, J, J, J, J, J, J, J, J, J, J, J, J, J, J, J, J, J, J, J, J, J, J, J, J, J, J, J, J, J, J, J, J, J, J, J, J, J, J, J, J, J, J, J, J, J, J, J, J, J, J, J, J, J, J, J, J, J, J, J, J, J, J, J, J, J, J, J, J, J, J, J, J, J, J, J, J, J, J, J, J, J, J, J, J, J, J, J, J, J, J, J, J, J, J, J, J, J, J, J, J, J, J, J, J, J, J, J, J, J, J, J, J, J, J, J, J, J, J, J, J, J, J, J, J, J], []⟩ : St)) ?_ ?_
    ·skip
     by_cases k7 : p0.name = ([] : List UInt8)
     ·skip
      have kk7 := k7
      try simp at kk7
      by_cases k8 : p0.variant = ([] : List UInt8)
      ·skip
       have kk8 := k8
       try simp at kk8
       by_cases k9 : (p0.ops.length : Int) = 1
       ·skip
        have kk9 := k9
        try simp at kk9
        refine EV.regionG tabOK ?_
        simp (maxSteps := 2000000) -implicitDefEqProofs +contextual [k7, kk7, k8, kk8, k9, kk9]
        refine callG_fun (w_rNoPlace p0.p) ?_ ?_
        ·first | (simp; done) | (simp [k7, kk7, k8, kk8, k9, kk9]; done)
        simp (maxSteps := 2000000) -implicitDefEqProofs +contextual [k7, kk7, k8, kk8, k9, kk9]
        refine ⟨(), ?_⟩
        try dsimp only
        refine Sub.cutF 0 (by simp) ?_ ?_ <;> simp [List.range_succ, toIdx_range, passed, k7, kk7, k8, kk8, k9, kk9]
       have kk9 := k9
       try simp at kk9
       refine EV.regionG tabOK ?_
       simp (maxSteps := 2000000) -implicitDefEqProofs +contextual [k7, kk7, k8, kk8, k9, kk9]
       refine ⟨(), ?_⟩
       try dsimp only
       refine Sub.cutF 0 (by simp) ?_ ?_ <;> simp [List.range_succ, toIdx_range, passed, k7, kk7, k8, kk8, k9, kk9]
      have kk8 := k8
      try simp at kk8
      refine EV.regionG tabOK ?_
      simp (maxSteps := 2000000) -implicitDefEqProofs +contextual [k7, kk7, k8, kk8]
      refine ⟨(), ?_⟩
      try dsimp only
      refine Sub.cutF 0 (by simp) ?_ ?_ <;> simp [List.range_succ, toIdx_range, passed, k7, kk7, k8, kk8]
     have kk7 := k7
     try simp at kk7
     refine EV.regionG tabOK ?_
     simp (maxSteps := 2000000) -implicitDefEqProofs +contextual [k7, kk7]
     refine ⟨(), ?_⟩
     try dsimp only
     refine Sub.cutF 0 (by simp) ?_ ?_ <;> simp [List.range_succ, toIdx_range, passed, k7, kk7]
    rintro _
    simp only [thenK_normal, blockK_normal, scopeK_normal, bodyK_normal]
    refine EV.ret ?_
    simp only [thenK_ret, blockK_ret, scopeK_ret, bodyK_ret]
    subst e
    refine Fin.pure0 ?_
    first | (simp; done) | (simp <;> grind)
   ·try simp at k5
    obtain ⟨f5, e⟩ := neg_on2 e (by first | simpa using k5 | grind)
    try simp at f5
    refine EV.seq (EV.seq (EV.regionG tabOK ?_))
    simp (maxSteps := 2000000) -implicitDefEqProofs
    obtain ⟨z15, e15, e⟩ := bnd_split e
    refine EV.nrm (fun v : { v : (Bool) × (Unit) // z15 = v.1 } => (fun (v15 : Bool) (g15 : Unit) => (⟨[J, .ptr 0 0 0 0, J, J, J, .i .i64 (p0.ops.length : Int), .b ((decide (p0.name = ([] : List UInt8))) && (decide (p0.variant = ([] : List UInt8)))), J, J, J, J, J, J, J, J, J, J, J, J, J, J, J, J, J, J, J, J, J, J, J, J, J, J, J, .i .i64 p0.k, J, J, J, J, J, J, J, J, J, J, J, J, J, J, .b v15, J, J, J, J, J, J, J, J, J, J, J, J, J, J, J, J, J, J, J, J, J, J, J, J, J, J, J, J, J, J, J, J, J, J, J, J, J, J, J, J, J, J, J, J, J, J, J, J, J, J, J, J, J, J, J, J, J, J, J, J, J, J, J, J, J, J, J, J, J, J, J, J, J, J, J, J, J, J, J, J, J, J, J, J, J, J, J, J, J, J, J], [.arr 0 6 [[.i .i64 p0.k, .ro 4 (p0.ops.map operC), .s p0.p.name, .ro 1 (p0.p.path.map stepC), .s p0.name, .s p0.variant]]]⟩ : St)) v.1.1 v.1.2) ?_ ?_
    ·skip
     refine EV.condT ?_
     simp -implicitDefEqProofs
     refine condT_intro (fun k10 => ?_) (fun k10 => ?_)
     ·try simp at k10
      obtain ⟨f10, e15⟩ := pos_on2 e15 (by first | simpa using k10 | grind)
      try simp at f10
      refine EV.skip ?_
      simp only [thenK_normal, blockK_normal, scopeK_normal]
      refine ⟨⟨(true, ()), e15.symm⟩, ?_⟩
      try dsimp only
      refine Sub.cutF 1 (by simp) ?_ ?_ <;> simp [List.range_succ, toIdx_range, passed]
     try simp at k10
     obtain ⟨f10, e15⟩ := neg_on2 e15 (by first | simpa using k10 | grind)
     try simp at f10
     refine EV.seq (EV.regionG tabOK ?_)
     simp (maxSteps := 2000000) -implicitDefEqProofs
     refine EV.condT ?_
     simp -implicitDefEqProofs
     refine condT_intro (fun k11 => ?_) (fun k11 => ?_)
     ·try simp at k11
      obtain ⟨f11, e15⟩ := pos_on2 e15 (by first | simpa using k11 | grind)
      try simp at f11
      refine EV.skip ?_
      simp only [thenK_normal, blockK_normal, scopeK_normal]
      refine ⟨⟨(true, ()), e15.symm⟩, ?_⟩
      try dsimp only
      refine Sub.cutF 1 (by simp) ?_ ?_ <;> simp [List.range_succ, toIdx_range, passed]
     try simp at k11
     obtain ⟨f11, e15⟩ := neg_on2 e15 (by first | simpa using k11 | grind)
     try simp at f11
     refine EV.seq (EV.regionG tabOK ?_)
     simp (maxSteps := 2000000) -implicitDefEqProofs
     refine EV.condT ?_
     simp -implicitDefEqProofs
     refine condT_intro (fun k12 => ?_) (fun k12 => ?_)
     ·try simp at k12
      obtain ⟨f12, e15⟩ := pos_on2 e15 (by first | simpa using k12 | grind)
      try simp at f12
      refine EV.skip ?_
      simp only [thenK_normal, blockK_normal, scopeK_normal]
      refine ⟨⟨(true, ()), e15.symm⟩, ?_⟩
      try dsimp only
      refine Sub.cutF 1 (by simp) ?_ ?_ <;> simp [List.range_succ, toIdx_range, passed]
     try simp at k12
     obtain ⟨f12, e15⟩ := neg_on2 e15 (by first | simpa using k12 | grind)
     try simp at f12
     refine EV.seq (EV.regionG tabOK ?_)
     simp (maxSteps := 2000000) -implicitDefEqProofs
     refine EV.condT ?_
     simp -implicitDefEqProofs
     refine condT_intro (fun k13 => ?_) (fun k13 => ?_)
     ·try simp at k13
      obtain ⟨f13, e15⟩ := pos_on2 e15 (by first | simpa using k13 | grind)
      try simp at f13
      refine EV.skip ?_
      simp only [thenK_normal, blockK_normal, scopeK_normal]
      refine ⟨⟨(true, ()), e15.symm⟩, ?_⟩
      try dsimp only
      refine Sub.cutF 1 (by simp) ?_ ?_ <;> simp [List.range_succ, toIdx_range, passed]
     try simp at k13
     obtain ⟨f13, e15⟩ := neg_on2 e15 (by first | simpa using k13 | grind)
     try simp at f13
     refine EV.regionG tabOK ?_
     simp (maxSteps := 2000000) -implicitDefEqProofs
     refine ⟨⟨((decide (p0.k = 5)), ()), e15.symm⟩, ?_⟩
     try dsimp only
     refine Sub.cutF 1 (by simp) ?_ ?_ <;> simp [List.range_succ, toIdx_range, passed]
    ·skip
     rintro ⟨⟨v15, g15⟩, e15⟩
     simp only [thenK_normal, blockK_normal, scopeK_normal, bodyK_normal]
     replace e := bnd_on e e15
     try dsimp only at e
     refine EV.condT ?_
     simp -implicitDefEqProofs
     refine condT_intro (fun k14 => ?_) (fun k14 => ?_)
     ·try simp at k14
      obtain ⟨f14, e⟩ := pos_on2 e (by first | simpa using k14 | grind)
      try simp at f14
      refine EV.seq ?_
      refine EV.nrm (fun _ : Unit => (⟨[J, J, .b ((((decide (p0.name = ([] : List UInt8))) && (decide (p0.variant = ([] : List UInt8)))) && (decide ((p0.ops.length : Int) = 2))) && (rNoPlace p0.p)), J, J, J, J, J, J, J, J, J, J, J, J, J, J, J, J, J, J, J, J, J, J, J, J, J, J, J, J, J, J, J, J, J, J, J, J, J, J, J, J, J, J, J, J, J, J, J, J, J, J, J, J, J, J, J, J, J, J, J, J, J, J, J, J, J, J, J, J, J, J, J, J, J, J, J, J, J, J, J, J, J, J, J, J, J, J, J, J, J, J, J, J, J, J, J, J, J, J, J, J, J, J, J, J, J, J, J, J, J, J, J, J, J, J, J, J, J, J, J, J, J, J, J, J, J, J, J, J, J, J, J, J, J, J, J, J, J, J], []⟩ : St)) ?_ ?_
      ·skip
       by_cases k16 : p0.name = ([] : List UInt8)
       ·skip
        have kk16 := k16
        try simp at kk16
        by_cases k17 : p0.variant = ([] : List UInt8)
        ·skip
         have kk17 := k17
         try simp at kk17
         by_cases k18 : (p0.ops.length : Int) = 2
         ·skip
          have kk18 := k18
          try simp at kk18
          refine EV.regionG tabOK ?_
          simp (maxSteps := 2000000) -implicitDefEqProofs +contextual [k16, kk16, k17, kk17, k18, kk18]
          refine callG_fun (w_rNoPlace p0.p) ?_ ?_
          ·first | (simp; done) | (simp [k16, kk16, k17, kk17, k18, kk18]; done)
          simp (maxSteps := 2000000) -implicitDefEqProofs +contextual [k16, kk16, k17, kk17, k18, kk18]
          refine ⟨(), ?_⟩
          try dsimp only
          refine Sub.cutF 0 (by simp) ?_ ?_ <;> simp [List.range_succ, toIdx_range, passed, k16, kk16, k17, kk17, k18, kk18]
         have kk18 := k18
         try simp at kk18
         refine EV.regionG tabOK ?_
         simp (maxSteps := 2000000) -implicitDefEqProofs +contextual [k16, kk16, k17, kk17, k18, kk18]
         refine ⟨(), ?_⟩
         try dsimp only
         refine Sub.cutF 0 (by simp) ?_ ?_ <;> simp [List.range_succ, toIdx_range, passed, k16, kk16, k17, kk17, k18, kk18]
        have kk17 := k17
        try simp at kk17
        refine EV.regionG tabOK ?_
        simp (maxSteps := 2000000) -implicitDefEqProofs +contextual [k16, kk16, k17, kk17]
        refine ⟨(), ?_⟩
        try dsimp only
        refine Sub.cutF 0 (by simp) ?_ ?_ <;> simp [List.range_succ, toIdx_range, passed, k16, kk16, k17, kk17]
       have kk16 := k16
       try simp at kk16
       refine EV.regionG tabOK ?_
       simp (maxSteps := 2000000) -implicitDefEqProofs +contextual [k16, kk16]
       refine ⟨(), ?_⟩
       try dsimp only
       refine Sub.cutF 0 (by simp) ?_ ?_ <;> simp [List.range_succ, toIdx_range, passed, k16, kk16]
      rintro _
      simp only [thenK_normal, blockK_normal, scopeK_normal, bodyK_normal]
      refine EV.ret ?_
      simp only [thenK_ret, blockK_ret, scopeK_ret, bodyK_ret]
      subst e
      refine Fin.pure0 ?_
      first | (simp; done) | (simp <;> grind)
     ·try simp at k14
      obtain ⟨f14, e⟩ := neg_on2 e (by first | simpa using k14 | grind)
      try simp at f14
      refine EV.seq (EV.seq (EV.regionG tabOK ?_))
      simp (maxSteps := 2000000) -implicitDefEqProofs
      obtain ⟨z21, e21, e⟩ := bnd_split e
      refine EV.nrm (fun v : { v : (Bool) × (Unit) // z21 = v.1 } => (fun (v21 : Bool) (g21 : Unit) => (⟨[J, .ptr 0 0 0 0, J, J, J, .i .i64 (p0.ops.length : Int), .b ((decide (p0.name = ([] : List UInt8))) && (decide (p0.variant = ([] : List UInt8)))), J, J, J, J, J, J, J, J, J, J, J, J, J, J, J, J, J, J, J, J, J, J, J, J, J, J, J, .i .i64 p0.k, J, J, J, J, J, J, J, J, J, J, J, J, J, J, J, J, J, J, J, J, J, J, J, J, J, J, J, J, J, J, .b v21, J, J, J, J, J, J, J, J, J, J, J, J, J, J, J, J, J, J, J, J, J, J, J, J, J, J, J, J, J, J, J, J, J, J, J, J, J, J, J, J, J, J, J, J, J, J, J, J, J, J, J, J, J, J, J, J, J, J, J, J, J, J, J, J, J, J, J, J, J, J, J, J, J, J, J], [.arr 0 6 [[.i .i64 p0.k, .ro 4 (p0.ops.map operC), .s p0.p.name, .ro 1 (p0.p.path.map stepC), .s p0.name, .s p0.variant]]]⟩ : St)) v.1.1 v.1.2) ?_ ?_
      ·skip
       refine EV.condT ?_
       simp -implicitDefEqProofs
       refine condT_intro (fun k19 => ?_) (fun k19 => ?_)
       ·try simp at k19
        obtain ⟨f19, e21⟩ := pos_on2 e21 (by first | simpa using k19 | grind)
        try simp at f19
        refine EV.skip ?_
        simp only [thenK_normal, blockK_normal, scopeK_normal]
        refine ⟨⟨(true, ()), e21.symm⟩, ?_⟩
        try dsimp only
        refine Sub.cutF 1 (by simp) ?_ ?_ <;> simp [List.range_succ, toIdx_range, passed]
       try simp at k19
       obtain ⟨f19, e21⟩ := neg_on2 e21 (by first | simpa using k19 | grind)
       try simp at f19
       refine EV.regionG tabOK ?_
       simp (maxSteps := 2000000) -implicitDefEqProofs
       refine ⟨⟨((decide (p0.k = 7)), ()), e21.symm⟩, ?_⟩
       try dsimp only
       refine Sub.cutF 1 (by simp) ?_ ?_ <;> simp [List.range_succ, toIdx_range, passed]
      ·skip
       rintro ⟨⟨v21, g21⟩, e21⟩
       simp only [thenK_normal, blockK_normal, scopeK_normal, bodyK_normal]
       replace e := bnd_on e e21
       try dsimp only at e
       refine EV.condT ?_
       simp -implicitDefEqProofs
       refine condT_intro (fun k20 => ?_) (fun k20 => ?_)
       ·try simp at k20
        obtain ⟨f20, e⟩ := pos_on2 e (by first | simpa using k20 | grind)
        try simp at f20
        refine EV.seq ?_
        refine EV.nrm (fun _ : Unit => (⟨[J, J, .b ((((decide (p0.name = ([] : List UInt8))) && (decide (p0.variant = ([] : List UInt8)))) && (decide ((p0.ops.length : Int) = 0))) && (rValidPlace p0.p false)), J, J, J, J, J, J, J, J, J, J, J, J, J, J, J, J, J, J, J, J, J, J, J, J, J, J, J, J, J, J, J, J, J, J, J, J, J, J, J, J, J, J, J, J, J, J, J, J, J, J, J, J, J, J, J, J, J, J, J, J, J, J, J, J, J, J, J, J, J, J, J, J, J, J, J, J, J, J, J, J, J, J, J, J, J, J, J, J, J, J, J, J, J, J, J, J, J, J, J, J, J, J, J, J, J, J, J, J, J, J, J, J, J, J, J, J, J, J, J, J, J, J, J, J, J, J, J, J, J, J, J, J, J, J, J, J, J, J], []⟩ : St)) ?_ ?_
        ·skip
         by_cases k22 : p0.name = ([] : List UInt8)
         ·skip
          have kk22 := k22
          try simp at kk22
          by_cases k23 : p0.variant = ([] : List UInt8)
          ·skip
           have kk23 := k23
           try simp at kk23
           by_cases k24 : (p0.ops.length : Int) = 0
           ·skip
            have kk24 := k24
            try simp at kk24
            refine EV.regionG tabOK ?_
            simp (maxSteps := 2000000) -implicitDefEqProofs +contextual [k22, kk22, k23, kk23, k24, kk24]
            refine callG_fun (w_rValidPlace p0.p false) ?_ ?_
            ·first | (simp; done) | (simp [k22, kk22, k23, kk23, k24, kk24]; done)
            simp (maxSteps := 2000000) -implicitDefEqProofs +contextual [k22, kk22, k23, kk23, k24, kk24]
            refine ⟨(), ?_⟩
            try dsimp only
            refine Sub.cutF 0 (by simp) ?_ ?_ <;> simp [List.range_succ, toIdx_range, passed, k22, kk22, k23, kk23, k24, kk24]
           have kk24 := k24
           try simp at kk24
           refine EV.regionG tabOK ?_
           simp (maxSteps := 2000000) -implicitDefEqProofs +contextual [k22, kk22, k23, kk23, k24, kk24]
           refine ⟨(), ?_⟩
           try dsimp only
           refine Sub.cutF 0 (by simp) ?_ ?_ <;> simp [List.range_succ, toIdx_range, passed, k22, kk22, k23, kk23, k24, kk24]
          have kk23 := k23
          try simp at kk23
          refine EV.regionG tabOK ?_
          simp (maxSteps := 2000000) -implicitDefEqProofs +contextual [k22, kk22, k23, kk23]
          refine ⟨(), ?_⟩
          try dsimp only
          refine Sub.cutF 0 (by simp) ?_ ?_ <;> simp [List.range_succ, toIdx_range, passed, k22, kk22, k23, kk23]
         have kk22 := k22
         try simp at kk22
         refine EV.regionG tabOK ?_
         simp (maxSteps := 2000000) -implicitDefEqProofs +contextual [k22, kk22]
         refine ⟨(), ?_⟩
         try dsimp only
         refine Sub.cutF 0 (by simp) ?_ ?_ <;> simp [List.range_succ, toIdx_range, passed, k22, kk22]
        rintro _
        simp only [thenK_normal, blockK_normal, scopeK_normal, bodyK_normal]
        refine EV.ret ?_
        simp only [thenK_ret, blockK_ret, scopeK_ret, bodyK_ret]
        subst e
        refine Fin.pure0 ?_
        first | (simp; done) | (simp <;> grind)
       ·try simp at k20
        obtain ⟨f20, e⟩ := neg_on2 e (by first | simpa using k20 | grind)
        try simp at f20
        refine EV.seq (EV.seq (EV.regionG tabOK ?_))
        simp (maxSteps := 2000000) -implicitDefEqProofs
        obtain ⟨z24, e24, e⟩ := bnd_split e
        refine EV.nrm (fun v : { v : (Bool) × (Unit) // z24 = v.1 } => (fun (v24 : Bool) (g24 : Unit) => (⟨[J, .ptr 0 0 0 0, J, J, J, .i .i64 (p0.ops.length : Int), .b ((decide (p0.name = ([] : List UInt8))) && (decide (p0.variant = ([] : List UInt8)))), J, J, J, J, J, J, J, J, J, J, J, J, J, J, J, J, J, J, J, J, J, J, J, J, J, J, J, .i .i64 p0.k, J, J, J, J, J, J, J, J, J, J, J, J, J, J, J, J, J, J, J, J, J, J, J, J, J, J, J, J, J, J, J, J, J, J, J, J, J, J, J, J, J, J, J, .b v24, J, J, J, J, J, J, J, J, J, J, J, J, J, J, J, J, J, J, J, J, J, J, J, J, J, J, J, J, J, J, J, J, J, J, J, J, J, J, J, J, J, J, J, J, J, J, J, J, J, J, J, J, J, J, J, J, J, J, J, J, J, J], [.arr 0 6 [[.i .i64 p0.k, .ro 4 (p0.ops.map operC), .s p0.p.name, .ro 1 (p0.p.path.map stepC), .s p0.name, .s p0.variant]]]⟩ : St)) v.1.1 v.1.2) ?_ ?_
        ·skip
         refine EV.condT ?_
         simp -implicitDefEqProofs
         refine condT_intro (fun k25 => ?_) (fun k25 => ?_)
         ·try simp at k25
          obtain ⟨f25, e24⟩ := pos_on2 e24 (by first | simpa using k25 | grind)
          try simp at f25
          refine EV.skip ?_
          simp only [thenK_normal, blockK_normal, scopeK_normal]
          refine ⟨⟨(true, ()), e24.symm⟩, ?_⟩
          try dsimp only
          refine Sub.cutF 1 (by simp) ?_ ?_ <;> simp [List.range_succ, toIdx_range, passed]
         try simp at k25
         obtain ⟨f25, e24⟩ := neg_on2 e24 (by first | simpa using k25 | grind)
         try simp at f25
         refine EV.seq (EV.regionG tabOK ?_)
         simp (maxSteps := 2000000) -implicitDefEqProofs
         refine EV.condT ?_
         simp -implicitDefEqProofs
         refine condT_intro (fun k26 => ?_) (fun k26 => ?_)
         ·try simp at k26
          obtain ⟨f26, e24⟩ := pos_on2 e24 (by first | simpa using k26 | grind)
          try simp at f26
          refine EV.skip ?_
          simp only [thenK_normal, blockK_normal, scopeK_normal]
          refine ⟨⟨(true, ()), e24.symm⟩, ?_⟩
          try dsimp only
          refine Sub.cutF 1 (by simp) ?_ ?_ <;> simp [List.range_succ, toIdx_range, passed]
         try simp at k26
         obtain ⟨f26, e24⟩ := neg_on2 e24 (by first | simpa using k26 | grind)
         try simp at f26
         refine EV.regionG tabOK ?_
         simp (maxSteps := 2000000) -implicitDefEqProofs
         refine ⟨⟨((decide (p0.k = 14)), ()), e24.symm⟩, ?_⟩
         try dsimp only
         refine Sub.cutF 1 (by simp) ?_ ?_ <;> simp [List.range_succ, toIdx_range, passed]
        ·skip
         rintro ⟨⟨v24, g24⟩, e24⟩
         simp only [thenK_normal, blockK_normal, scopeK_normal, bodyK_normal]
         replace e := bnd_on e e24
         try dsimp only at e
         refine EV.condT ?_
         simp -implicitDefEqProofs
         refine condT_intro (fun k27 => ?_) (fun k27 => ?_)
         ·try simp at k27
          obtain ⟨f27, e⟩ := pos_on2 e (by first | simpa using k27 | grind)
          try simp at f27
          refine EV.seq ?_
          refine EV.nrm (fun _ : Unit => (⟨[J, J, .b ((((decide (p0.name = ([] : List UInt8))) && (decide (p0.variant = ([] : List UInt8)))) && (decide ((p0.ops.length : Int) = 0))) && (rValidPlace p0.p true)), J, J, J, J, J, J, J, J, J, J, J, J, J, J, J, J, J, J, J, J, J, J, J, J, J, J, J, J, J, J, J, J, J, J, J, J, J, J, J, J, J, J, J, J, J, J, J, J, J, J, J, J, J, J, J, J, J, J, J, J, J, J, J, J, J, J, J, J, J, J, J, J, J, J, J, J, J, J, J, J, J, J, J, J, J, J, J, J, J, J, J, J, J, J, J, J, J, J, J, J, J, J, J, J, J, J, J, J, J, J, J, J, J, J, J, J, J, J, J, J, J, J, J, J, J, J, J, J, J, J, J, J, J, J, J, J, J, J], []⟩ : St)) ?_ ?_
          ·skip
           by_cases k29 : p0.name = ([] : List UInt8)
           ·skip
            have kk29 := k29
            try simp at kk29
            by_cases k30 : p0.variant = ([] : List UInt8)
            ·skip
             have kk30 := k30
             try simp at kk30
             by_cases k31 : (p0.ops.length : Int) = 0
             ·skip
              have kk31 := k31
              try simp at kk31
              refine EV.regionG tabOK ?_
              simp (maxSteps := 2000000) -implicitDefEqProofs +contextual [k29, kk29, k30, kk30, k31, kk31]
              refine callG_fun (w_rValidPlace p0.p true) ?_ ?_
              ·first | (simp; done) | (simp [k29, kk29, k30, kk30, k31, kk31]; done)
              simp (maxSteps := 2000000) -implicitDefEqProofs +contextual [k29, kk29, k30, kk30, k31, kk31]
              refine ⟨(), ?_⟩
              try dsimp only
              refine Sub.cutF 0 (by simp) ?_ ?_ <;> simp [List.range_succ, toIdx_range, passed, k29, kk29, k30, kk30, k31, kk31]
             have kk31 := k31
             try simp at kk31
             refine EV.regionG tabOK ?_
             simp (maxSteps := 2000000) -implicitDefEqProofs +contextual [k29, kk29, k30, kk30, k31, kk31]
             refine ⟨(), ?_⟩
             try dsimp only
             refine Sub.cutF 0 (by simp) ?_ ?_ <;> simp [List.range_succ, toIdx_range, passed, k29, kk29, k30, kk30, k31, kk31]
            have kk30 := k30
            try simp at kk30
            refine EV.regionG tabOK ?_
            simp (maxSteps := 2000000) -implicitDefEqProofs +contextual [k29, kk29, k30, kk30]
            refine ⟨(), ?_⟩
            try dsimp only
            refine Sub.cutF 0 (by simp) ?_ ?_ <;> simp [List.range_succ, toIdx_range, passed, k29, kk29, k30, kk30]
           have kk29 := k29
           try simp at kk29
           refine EV.regionG tabOK ?_
           simp (maxSteps := 2000000) -implicitDefEqProofs +contextual [k29, kk29]
           refine ⟨(), ?_⟩
           try dsimp only
           refine Sub.cutF 0 (by simp) ?_ ?_ <;> simp [List.range_succ, toIdx_range, passed, k29, kk29]
          rintro _
          simp only [thenK_normal, blockK_normal, scopeK_normal, bodyK_normal]
          refine EV.ret ?_
          simp only [thenK_ret, blockK_ret, scopeK_ret, bodyK_ret]
          subst e
          refine Fin.pure0 ?_
          first | (simp; done) | (simp <;> grind)
         ·try simp at k27
          obtain ⟨f27, e⟩ := neg_on2 e (by first | simpa using k27 | grind)
          try simp at f27
          refine EV.seq (EV.regionG tabOK ?_)
          simp (maxSteps := 2000000) -implicitDefEqProofs
          refine EV.condT ?_
          simp -implicitDefEqProofs
          refine condT_intro (fun k32 => ?_) (fun k32 => ?_)
          ·try simp at k32
           obtain ⟨f32, e⟩ := pos_on2 e (by first | simpa using k32 | grind)
           try simp at f32
           refine EV.seq ?_
           refine EV.nrm (fun _ : Unit => (⟨[J, J, .b (((rGreat p0.name) && (decide (p0.variant = ([] : List UInt8)))) && (rNoPlace p0.p)), J, J, J, J, J, J, J, J, J, J, J, J, J, J, J, J, J, J, J, J, J, J, J, J, J, J, J, J, J, J, J, J, J, J, J, J, J, J, J, J, J, J, J, J, J, J, J, J, J, J, J, J, J, J, J, J, J, J, J, J, J, J, J, J, J, J, J, J, J, J, J, J, J, J, J, J, J, J, J, J, J, J, J, J, J, J, J, J, J, J, J, J, J, J, J, J, J, J, J, J, J, J, J, J, J, J, J, J, J, J, J, J, J, J, J, J, J, J, J, J, J, J, J, J, J, J, J, J, J, J, J, J, J, J, J, J, J, J], []⟩ : St)) ?_ ?_
           ·skip
            cases k34 : (rGreat p0.name)
            ·skip
             have kk34 := k34
             try simp at kk34
             refine EV.regionG tabOK ?_
             simp (maxSteps := 2000000) -implicitDefEqProofs +contextual [k34, kk34]
             refine callG_fun (w_rGreat p0.name) ?_ ?_
             ·first | (simp; done) | (simp [k34, kk34]; done)
             simp (maxSteps := 2000000) -implicitDefEqProofs +contextual [k34, kk34]
             refine ⟨(), ?_⟩
             try dsimp only
             refine Sub.cutF 0 (by simp) ?_ ?_ <;> simp [List.range_succ, toIdx_range, passed, k34, kk34]
            have kk34 := k34
            try simp at kk34
            by_cases k35 : p0.variant = ([] : List UInt8)
            ·skip
             have kk35 := k35
             try simp at kk35
             refine EV.regionG tabOK ?_
             simp (maxSteps := 2000000) -implicitDefEqProofs +contextual [k34, kk34, k35, kk35]
             refine callG_fun (w_rGreat p0.name) ?_ ?_
             ·first | (simp; done) | (simp [k34, kk34, k35, kk35]; done)
             simp (maxSteps := 2000000) -implicitDefEqProofs +contextual [k34, kk34, k35, kk35]
             refine callG_fun (w_rNoPlace p0.p) ?_ ?_
             ·first | (simp; done) | (simp [k34, kk34, k35, kk35]; done)
             simp (maxSteps := 2000000) -implicitDefEqProofs +contextual [k34, kk34, k35, kk35]
             refine ⟨(), ?_⟩
             try dsimp only
             refine Sub.cutF 0 (by simp) ?_ ?_ <;> simp [List.range_succ, toIdx_range, passed, k34, kk34, k35, kk35]
            have kk35 := k35
            try simp at kk35
            refine EV.regionG tabOK ?_
            simp (maxSteps := 2000000) -implicitDefEqProofs +contextual [k34, kk34, k35, kk35]
            refine callG_fun (w_rGreat p0.name) ?_ ?_
            ·first | (simp; done) | (simp [k34, kk34, k35, kk35]; done)
            simp (maxSteps := 2000000) -implicitDefEqProofs +contextual [k34, kk34, k35, kk35]
            refine ⟨(), ?_⟩
            try dsimp only
            refine Sub.cutF 0 (by simp) ?_ ?_ <;> simp [List.range_succ, toIdx_range, passed, k34, kk34, k35, kk35]
           rintro _
           simp only [thenK_normal, blockK_normal, scopeK_normal, bodyK_normal]
           refine EV.ret ?_
           simp only [thenK_ret, blockK_ret, scopeK_ret, bodyK_ret]
           subst e
           refine Fin.pure0 ?_
           first | (simp; done) | (simp <;> grind)
          ·try simp at k32
           obtain ⟨f32, e⟩ := neg_on2 e (by first | simpa using k32 | grind)
           try simp at f32
           refine EV.seq (EV.regionG tabOK ?_)
           simp (maxSteps := 2000000) -implicitDefEqProofs
           refine EV.condT ?_
           simp -implicitDefEqProofs
           refine condT_intro (fun k36 => ?_) (fun k36 => ?_)
           ·try simp at k36
            obtain ⟨f36, e⟩ := pos_on2 e (by first | simpa using k36 | grind)
            try simp at f36
            refine EV.seq ?_
            refine EV.nrm (fun _ : Unit => (⟨[J, J, .b ((((rGreat p0.name) && (rGreat p0.variant)) && (decide ((p0.ops.length : Int) ≤ 1))) && (rNoPlace p0.p)), J, J, J, J, J, J, J, J, J, J, J, J, J, J, J, J, J, J, J, J, J, J, J, J, J, J, J, J, J, J, J, J, J, J, J, J, J, J, J, J, J, J, J, J, J, J, J, J, J, J, J, J, J, J, J, J, J, J, J, J, J, J, J, J, J, J, J, J, J, J, J, J, J, J, J, J, J, J, J, J, J, J, J, J, J, J, J, J, J, J, J, J, J, J, J, J, J, J, J, J, J, J, J, J, J, J, J, J, J, J, J, J, J, J, J, J, J, J, J, J, J, J, J, J, J, J, J, J, J, J, J, J, J, J, J, J, J, J], []⟩ : St)) ?_ ?_
            ·skip
             cases k38 : (rGreat p0.name)
             ·skip
              have kk38 := k38
              try simp at kk38
              refine EV.regionG tabOK ?_
              simp (maxSteps := 2000000) -implicitDefEqProofs +contextual [k38, kk38]
              refine callG_fun (w_rGreat p0.name) ?_ ?_
              ·first | (simp; done) | (simp [k38, kk38]; done)
              simp (maxSteps := 2000000) -implicitDefEqProofs +contextual [k38, kk38]
              refine ⟨(), ?_⟩
              try dsimp only
              refine Sub.cutF 0 (by simp) ?_ ?_ <;> simp [List.range_succ, toIdx_range, passed, k38, kk38]
             have kk38 := k38
             try simp at kk38
             cases k39 : (rGreat p0.variant)
             ·skip
              have kk39 := k39
              try simp at kk39
              refine EV.regionG tabOK ?_
              simp (maxSteps := 2000000) -implicitDefEqProofs +contextual [k38, kk38, k39, kk39]
              refine callG_fun (w_rGreat p0.name) ?_ ?_
              ·first | (simp; done) | (simp [k38, kk38, k39, kk39]; done)
              simp (maxSteps := 2000000) -implicitDefEqProofs +contextual [k38, kk38, k39, kk39]
              refine callG_fun (w_rGreat p0.variant) ?_ ?_
              ·first | (simp; done) | (simp [k38, kk38, k39, kk39]; done)
              simp (maxSteps := 2000000) -implicitDefEqProofs +contextual [k38, kk38, k39, kk39]
              refine ⟨(), ?_⟩
              try dsimp only
              refine Sub.cutF 0 (by simp) ?_ ?_ <;> simp [List.range_succ, toIdx_range, passed, k38, kk38, k39, kk39]
             have kk39 := k39
             try simp at kk39
             by_cases k40 : (p0.ops.length : Int) ≤ 1
             ·skip
              have kk40 := k40
              try simp at kk40
              refine EV.regionG tabOK ?_
              simp (maxSteps := 2000000) -implicitDefEqProofs +contextual [k38, kk38, k39, kk39, k40, kk40]
              refine callG_fun (w_rGreat p0.name) ?_ ?_
              ·first | (simp; done) | (simp [k38, kk38, k39, kk39, k40, kk40]; done)
              simp (maxSteps := 2000000) -implicitDefEqProofs +contextual [k38, kk38, k39, kk39, k40, kk40]
              refine callG_fun (w_rGreat p0.variant) ?_ ?_
              ·first | (simp; done) | (simp [k38, kk38, k39, kk39, k40, kk40]; done)
              simp (maxSteps := 2000000) -implicitDefEqProofs +contextual [k38, kk38, k39, kk39, k40, kk40]
              refine callG_fun (w_rNoPlace p0.p) ?_ ?_
              ·first | (simp; done) | (simp [k38, kk38, k39, kk39, k40, kk40]; done)
              simp (maxSteps := 2000000) -implicitDefEqProofs +contextual [k38, kk38, k39, kk39, k40, kk40]
              refine ⟨(), ?_⟩
              try dsimp only
              refine Sub.cutF 0 (by simp) ?_ ?_ <;> simp [List.range_succ, toIdx_range, passed, k38, kk38, k39, kk39, k40, kk40]
             have kk40 := k40
             try simp at kk40
             refine EV.regionG tabOK ?_
             simp (maxSteps := 2000000) -implicitDefEqProofs +contextual [k38, kk38, k39, kk39, k40, kk40]
             refine callG_fun (w_rGreat p0.name) ?_ ?_
             ·first | (simp; done) | (simp [k38, kk38, k39, kk39, k40, kk40]; done)
             simp (maxSteps := 2000000) -implicitDefEqProofs +contextual [k38, kk38, k39, kk39, k40, kk40]
             refine callG_fun (w_rGreat p0.variant) ?_ ?_
             ·first | (simp; done) | (simp [k38, kk38, k39, kk39, k40, kk40]; done)
             simp (maxSteps := 2000000) -implicitDefEqProofs +contextual [k38, kk38, k39, kk39, k40, kk40]
             refine ⟨(), ?_⟩
             try dsimp only
             refine Sub.cutF 0 (by simp) ?_ ?_ <;> simp [List.range_succ, toIdx_range, passed, k38, kk38, k39, kk39, k40, kk40]
            rintro _
            simp only [thenK_normal, blockK_normal, scopeK_normal, bodyK_normal]
            refine EV.ret ?_
            simp only [thenK_ret, blockK_ret, scopeK_ret, bodyK_ret]
            subst e
            refine Fin.pure0 ?_
            first | (simp; done) | (simp <;> grind)
           ·try simp at k36
            obtain ⟨f36, e⟩ := neg_on2 e (by first | simpa using k36 | grind)
            try simp at f36
            refine EV.seq (EV.regionG tabOK ?_)
            simp (maxSteps := 2000000) -implicitDefEqProofs
            refine EV.condT ?_
            simp -implicitDefEqProofs
            refine condT_intro (fun k41 => ?_) (fun k41 => ?_)
            ·try simp at k41
             obtain ⟨f41, e⟩ := pos_on2 e (by first | simpa using k41 | grind)
             try simp at f41
             refine EV.seq ?_
             refine EV.nrm (fun _ : Unit => (⟨[J, J, .b (((rSmall p0.name) && (decide (p0.variant = ([] : List UInt8)))) && (rNoPlace p0.p)), J, J, J, J, J, J, J, J, J, J, J, J, J, J, J, J, J, J, J, J, J, J, J, J, J, J, J, J, J, J, J, J, J, J, J, J, J, J, J, J, J, J, J, J, J, J, J, J, J, J, J, J, J, J, J, J, J, J, J, J, J, J, J, J, J, J, J, J, J, J, J, J, J, J, J, J, J, J, J, J, J, J, J, J, J, J, J, J, J, J, J, J, J, J, J, J, J, J, J, J, J, J, J, J, J, J, J, J, J, J, J, J, J, J, J, J, J, J, J, J, J, J, J, J, J, J, J, J, J, J, J, J, J, J, J, J, J, J], []⟩ : St)) ?_ ?_
             ·skip
              cases k43 : (rSmall p0.name)
              ·skip
               have kk43 := k43
               try simp at kk43
               refine EV.regionG tabOK ?_
               simp (maxSteps := 2000000) -implicitDefEqProofs +contextual [k43, kk43]
               refine callG_fun (w_rSmall p0.name) ?_ ?_
               ·first | (simp; done) | (simp [k43, kk43]; done)
               simp (maxSteps := 2000000) -implicitDefEqProofs +contextual [k43, kk43]
               refine ⟨(), ?_⟩
               try dsimp only
               refine Sub.cutF 0 (by simp) ?_ ?_ <;> simp [List.range_succ, toIdx_range, passed, k43, kk43]
              have kk43 := k43
              try simp at kk43
              by_cases k44 : p0.variant = ([] : List UInt8)
              ·skip
               have kk44 := k44
               try simp at kk44
               refine EV.regionG tabOK ?_
               simp (maxSteps := 2000000) -implicitDefEqProofs +contextual [k43, kk43, k44, kk44]
               refine callG_fun (w_rSmall p0.name) ?_ ?_
               ·first | (simp; done) | (simp [k43, kk43, k44, kk44]; done)
               simp (maxSteps := 2000000) -implicitDefEqProofs +contextual [k43, kk43, k44, kk44]
               refine callG_fun (w_rNoPlace p0.p) ?_ ?_
               ·first | (simp; done) | (simp [k43, kk43, k44, kk44]; done)
               simp (maxSteps := 2000000) -implicitDefEqProofs +contextual [k43, kk43, k44, kk44]
               refine ⟨(), ?_⟩
               try dsimp only
               refine Sub.cutF 0 (by simp) ?_ ?_ <;> simp [List.range_succ, toIdx_range, passed, k43, kk43, k44, kk44]
              have kk44 := k44
              try simp at kk44
              refine EV.regionG tabOK ?_
              simp (maxSteps := 2000000) -implicitDefEqProofs +contextual [k43, kk43, k44, kk44]
              refine callG_fun (w_rSmall p0.name) ?_ ?_
              ·first | (simp; done) | (simp [k43, kk43, k44, kk44]; done)
              simp (maxSteps := 2000000) -implicitDefEqProofs +contextual [k43, kk43, k44, kk44]
              refine ⟨(), ?_⟩
              try dsimp only
              refine Sub.cutF 0 (by simp) ?_ ?_ <;> simp [List.range_succ, toIdx_range, passed, k43, kk43, k44, kk44]
             rintro _
             simp only [thenK_normal, blockK_normal, scopeK_normal, bodyK_normal]
             refine EV.ret ?_
             simp only [thenK_ret, blockK_ret, scopeK_ret, bodyK_ret]
             subst e
             refine Fin.pure0 ?_
             first | (simp; done) | (simp <;> grind)
            ·try simp at k41
             obtain ⟨f41, e⟩ := neg_on2 e (by first | simpa using k41 | grind)
             try simp at f41
             refine EV.skip ?_
             simp only [thenK_normal, blockK_normal, scopeK_normal]
             refine EV.seq (EV.regionG tabOK ?_)
             simp (maxSteps := 2000000) -implicitDefEqProofs
             refine EV.ret ?_
             simp only [thenK_ret, blockK_ret, scopeK_ret, bodyK_ret]
             subst e
             refine Fin.pure0 ?_
             first | (simp; done) | (simp <;> grind)
end
end Go.Proofs.Tryz
end
