/- Contracts of the functions that read names. -/
import Derived.Test.YtakfpmogpnoibaaGreatDoorRefA
import Derived.Test.YtakfpmogpnoibaaGreatDoorMachE
set_option linter.unusedVariables false
set_option linter.unusedSimpArgs false
set_option linter.constructorNameAsVariable false
section
namespace Go.Proofs.Tryz
open Go Go.AM
attribute [local simp] wpG_op wpG_nil contG_some wpG_guard guardG_v guardG_o guardG_tup gval pureOp stepG_if isPick pickG_pick pickB_b pickOK isCall step_move step_assign step_alloc step_box boxV_some step_load step_store step_binOp step_unOp step_fieldAddr faV step_indexAddr ixA_slc ixA_arr step_extract extV_tup step_nilCheck ncV_ptr ncV_rp ncV_fn ncV_mp step_build buildV step_buildSlice bsV step_index ixV_arr ixV_str step_append apB step_makeSlice msV_i step_makeFunc over step_len step_makeMap mmV step_mapUpdate step_insert muA_map muB_mp step_lookup lkA_map lkB_mp step_slice slcV_s slcV_sl slcV_ro cutB_some slObV_arr bound_none bound_some bndV_i lenB_str lenB_ro lenB_sl lenB_nil lenB_z ld_ptr ld_rp offV_ptr offV_rp idxV_ro idxV_sl unV_not unV_neg binV_int binV_str binV_eqlb binV_neqb intOp strOp St.put updL setOb St.ev toV St.lk cellsOf AM.valOf TK.agg stv fillV places TI.zero condT_true condT_false finS resL resSlot packV ren ren1 ren0 Value.cells builtinV appendV elemsOf keepT room_of wrap_in toIdx passed Function.comp_def take_len_map lenV touchOf hid tab1 tab2 tab3 tab4 tab5 tab6 tab7 tab8 tab9 tab20 tab22 tab23 tab24 tab26 tab32 tab33 tab35 tab36 tab37 tab39 tab41 tab42 tab43 tab45 tab46 tab47 tab49 tab50 tab52 tab74 tab79 tab83 tab86 tab87 tab89 tab92 tab100 tab101 tab102 tab103 tab105 tab107 tab108 tab113 tab114 tab116 tab117 tab118 tab122 tab123 tab125 tab127 tab130 tab132 tab136 tab173 tab175 tab178 tab179 tab180 tab182 tab189 tab215 tab219 tab220 tab224 tab225 tab241 tab244 tab247 tab253 tab261 tab262 tab265 tab266 armC_eq blockC_eq bodyC_eq enumC_eq fieldC_eq fnC_eq inC_eq localC_eq mirBodyC_eq operC_eq placeC_eq rvC_eq sourceC_eq spotC_eq stepC_eq stmtC_eq structC_eq tmC_eq tyC_eq useC_eq valueC_eq variantC_eq binV_eqls binV_neqs cutL_nil cutL_junk cutL_cons ren_arr ren_gone ren_unborn ren_var ren_row step_convert cvV_i cvV_sl cvV_s cvK_slc cvE_u8 bytesOf bor1 bor2 bor3 bor4
set_option linter.unusedSimpArgs false
set_option linter.unusedVariables false
set_option maxRecDepth 10000
set_option maxHeartbeats 40000000
noncomputable section

def tLetter (p0 : Int) : Bool :=
 ((decide (97 ≤ (ior .u8 p0 32))) && (decide ((ior .u8 p0 32) ≤ 122)))
theorem w_tLetter (p0 : Int)  : QC prog 178 [.i .u8 p0] [] (.b (tLetter p0)) [] := by
 refine QC.of_body tabOK func178 rfl (by kernel_rfl) ?_
 simp only [f178]
 generalize e : tLetter p0 = R
 unfold tLetter at e
 refine SR ?_
 simp -implicitDefEqProofs
 refine SR ?_
 simp -implicitDefEqProofs +contextual
 refine EV.ret ?_
 simp only [KR1, KR2, KR3, KR4]
 subst e
 refine Fin.pure0 ?_
 first | (simp; done) | (simp <;> grind)

def tDigit (p0 : Int) : Bool :=
 ((decide (48 ≤ p0)) && (decide (p0 ≤ 57)))
theorem w_tDigit (p0 : Int)  : QC prog 208 [.i .u8 p0] [] (.b (tDigit p0)) [] := by
 refine QC.of_body tabOK func208 rfl (by kernel_rfl) ?_
 simp only [f208]
 generalize e : tDigit p0 = R
 unfold tDigit at e
 refine SR ?_
 simp -implicitDefEqProofs
 refine SR ?_
 simp -implicitDefEqProofs +contextual
 refine EV.ret ?_
 simp only [KR1, KR2, KR3, KR4]
 subst e
 refine Fin.pure0 ?_
 first | (simp; done) | (simp <;> grind)

def tInner (p0 : Int) : Bool :=
 (((tLetter p0) || (tDigit p0)) || (decide (p0 = 95)))
theorem w_tInner (p0 : Int)  : QC prog 180 [.i .u8 p0] [] (.b (tInner p0)) [] := by
 refine QC.of_body tabOK func180 rfl (by kernel_rfl) ?_
 simp only [f180]
 generalize e : tInner p0 = R
 unfold tInner at e
 refine SR ?_
 simp -implicitDefEqProofs
 refine EV.seq ?_
 refine EV.nrm (fun _ : Unit => (⟨[J, J, .b (((tLetter p0) || (tDigit p0)) || (decide (p0 = 95))), J, J, J, J, J, J, J, J, J, J], []⟩ : St)) ?_ ?_
 ·skip
  cases k2 : (tLetter p0)
  ·skip
   have kk2 := k2
   try simp at kk2
   refine RG ?_
   simp -implicitDefEqProofs +contextual [k2, kk2]
   refine callG_fun (w_tLetter p0) ?_ ?_
   ·first | (simp; done) | (simp [k2, kk2]; done)
   simp -implicitDefEqProofs +contextual [k2, kk2]
   refine callG_fun (w_tDigit p0) ?_ ?_
   ·first | (simp; done) | (simp [k2, kk2]; done)
   simp -implicitDefEqProofs +contextual [k2, kk2]
   refine ⟨(), ?_⟩
   try dsimp only
   refine Sub.cutF 0 (by simp) ?_ ?_ <;> simp [List.range_succ, toIdx_range, passed, k2, kk2]
  have kk2 := k2
  try simp at kk2
  refine RG ?_
  simp -implicitDefEqProofs +contextual [k2, kk2]
  refine callG_fun (w_tLetter p0) ?_ ?_
  ·first | (simp; done) | (simp [k2, kk2]; done)
  simp -implicitDefEqProofs +contextual [k2, kk2]
  refine ⟨(), ?_⟩
  try dsimp only
  refine Sub.cutF 0 (by simp) ?_ ?_ <;> simp [List.range_succ, toIdx_range, passed, k2, kk2]
 rintro _
 simp only [KN1, KN2, KN3, KN4]
 refine EV.ret ?_
 simp only [KR1, KR2, KR3, KR4]
 subst e
 refine Fin.pure0 ?_
 first | (simp; done) | (simp <;> grind)

def tLen_l2 (p0 : List UInt8) (p1 : Int → Bool) (a2_0 : Int) : Int :=
 (bnd (p0.getD ((a2_0).toNat) 0) fun (y2_8 : UInt8) => (if (a2_0 < (p0.length : Int)) ∧ ((p1 (y2_8.toNat : Int)) = true) then (if _h : (((p0.length : Int) + 1 - ((IntKind.i64.wrap (a2_0 + 1)))).toNat) < (((p0.length : Int) + 1 - a2_0).toNat) then tLen_l2 p0 p1 (IntKind.i64.wrap (a2_0 + 1)) else default) else a2_0))
 termination_by ((p0.length : Int) + 1 - a2_0).toNat
 decreasing_by exact _h
def tLen (p0 : List UInt8) (p1 : Int → Bool) : Int :=
 (bnd (tLen_l2 p0 p1 0) fun (v2 : Int) => v2)
theorem w_tLen0 (p0 : List UInt8) (p1 : Int → Bool) (h24 : p0.length ≤ 24) (fid1 : FuncId) (H1 : ∀ (u0 : Int), QC prog fid1 [.i .u8 u0] [] (.b (p1 u0)) []) : QC prog 179 [.s p0, .fn fid1 []] [] (.i .i64 (tLen p0 p1)) [] := by
 refine QC.of_body tabOK func179 rfl (by kernel_rfl) ?_
 simp only [f179]
 generalize e : tLen p0 p1 = R
 unfold tLen at e
 refine SR ?_
 simp -implicitDefEqProofs
 refine SR ?_
 simp -implicitDefEqProofs
 refine EV.seq ?_
 obtain ⟨z2, e2, e⟩ := bnd_split e
 refine EV.nrm (fun v : { v : (Int) × (Unit) // z2 = v.1 } => (fun (v2 : Int) (g2 : Unit) => (⟨[J, J, J, J, J, .i .i64 v2, J, J, J, J, J, J, J, J, J, J, J, J, J, J], []⟩ : St)) v.1.1 v.1.2) ?_ ?_
 ·skip
  refine EV.block ?_
  refine EV.loopB (fun x : { x : Int // tLen_l2 p0 p1 x = z2 ∧ (fun (a2_0 : Int) => 0 ≤ a2_0 ∧ a2_0 ≤ (p0.length : Int)) x } => (fun (a2_0 : Int) => (⟨[.s p0, .fn fid1 [], J, J, J, .i .i64 a2_0, J, J, J, J, J, J, J, J, J, J, J, J, J, J], []⟩ : St)) x.1) (fun x => (fun (a2_0 : Int) => ((p0.length : Int) + 1 - a2_0).toNat) x.1) ⟨0, e2, by ((try dsimp only); first | omega | (simp only [IntKind.wrap_i64] at *; omega))⟩ ?_ ?_
  ·skip
   try dsimp only
   try dsimp only
   refine Sub.cutF 0 (by simp) ?_ ?_ <;> simp [List.range_succ, toIdx_range, passed]
  rintro ⟨a2_0, e2, q2⟩
  simp only at e2 ⊢
  try dsimp only at q2
  rw [tLen_l2] at e2
  rw [dif_pos (by simp only [IntKind.wrap_i64]; omega)] at e2
  refine EV.seq (EV.seq ?_)
  obtain ⟨y2_8, gy2_8⟩ : ∃ z, (p0.getD ((a2_0).toNat) 0) = z := ⟨_, rfl⟩
  replace e2 := bnd_on e2 gy2_8
  try dsimp only at e2
  refine EV.nrm (fun _ : Unit => (⟨[.s p0, .fn fid1 [], J, J, J, .i .i64 a2_0, J, J, J, J, J, J, J, J, J, J, .b ((decide (a2_0 < (p0.length : Int))) && (p1 (y2_8.toNat : Int))), J, J, J], []⟩ : St)) ?_ ?_
  ·skip
   by_cases k2 : a2_0 < (p0.length : Int)
   ·skip
    have kk2 := k2
    try simp at kk2
    have b3 : 0 ≤ a2_0 ∧ a2_0 < (p0.length : Int) := by (first | omega | (simp only [IntKind.wrap_i64] at *; omega))
    have c3 : (a2_0).toNat < p0.length := by omega
    have hy2_8 : p0[(a2_0).toNat] = y2_8 := by rw [← gy2_8, List.getD_eq_getElem?_getD, List.getElem?_eq_getElem c3]; rfl
    refine RG ?_
    simp -implicitDefEqProofs +contextual [k2, kk2, b3, c3, hy2_8]
    refine callG_own [] rfl (H1 (y2_8.toNat : Int)) ?_ ?_ ?_ ?_ ?_ ?_
    ·simp
    ·simp
    ·simp
    ·simp
    ·simp
    simp -implicitDefEqProofs +contextual [k2, kk2, b3, c3, hy2_8, keys, callUpd, List.range_succ]
    refine ⟨(), ?_⟩
    try dsimp only
    refine Sub.cutF 0 (by simp) ?_ ?_ <;> simp [List.range_succ, toIdx_range, passed, k2, kk2, b3, c3, hy2_8]
   have kk2 := k2
   try simp at kk2
   refine RG ?_
   simp -implicitDefEqProofs +contextual [k2, kk2]
   refine ⟨(), ?_⟩
   try dsimp only
   refine Sub.cutF 0 (by simp) ?_ ?_ <;> simp [List.range_succ, toIdx_range, passed, k2, kk2]
  rintro _
  simp only [KN1, KN2, KN3, KN4]
  refine EV.condT ?_
  simp -implicitDefEqProofs
  refine condT_intro (fun k4 => ?_) (fun k4 => ?_)
  ·try simp at k4
   obtain ⟨f4, e2⟩ := PO e2 k4
   try simp at f4
   refine EV.skip ?_
   simp only [KN1, KN2, KN3]
   refine EV.block (RG ?_)
   simp -implicitDefEqProofs
   refine ⟨⟨(IntKind.i64.wrap (a2_0 + 1)), e2, by ((try dsimp only); first | omega | (simp only [IntKind.wrap_i64] at *; omega))⟩, by (dsimp only; simp only [IntKind.wrap_i64] at *; omega), ?_⟩
   try dsimp only
   refine Sub.cutF 0 (by simp) ?_ ?_ <;> simp [List.range_succ, toIdx_range, passed]
  try simp at k4
  obtain ⟨f4, e2⟩ := NO e2 k4
  try simp at f4
  refine EV.exit ?_
  simp -implicitDefEqProofs
  refine ⟨⟨(a2_0, ()), e2.symm⟩, ?_⟩
  try dsimp only
  refine Sub.cutF 0 (by simp) ?_ ?_ <;> simp [List.range_succ, toIdx_range, passed]
 rintro ⟨⟨v2, g2⟩, e2⟩
 simp only [KN1, KN2, KN3, KN4]
 replace e := bnd_on e e2
 try dsimp only at e
 refine SR ?_
 simp -implicitDefEqProofs
 refine EV.ret ?_
 simp only [KR1, KR2, KR3, KR4]
 subst e
 refine Fin.pure0 ?_
 first | (simp; done) | (simp <;> grind)

theorem w_tLenI (p0 : List UInt8) (h24 : p0.length ≤ 24) : QC prog 179 [.s p0, .fn 180 []] [] (.i .i64 (tLen p0 tInner)) [] := w_tLen0 p0 tInner h24 180 w_tInner

def tWord (p0 : List UInt8) : Bool :=
 (bnd (p0.getD 0 0) fun (y1_9 : UInt8) => ((((!(decide (p0 = ([] : List UInt8)))) && (decide ((p0.length : Int) ≤ 24))) && (tLetter (y1_9.toNat : Int))) && (decide ((tLen p0 tInner) = (p0.length : Int)))))
theorem w_tWord (p0 : List UInt8)  : QC prog 115 [.s p0] [] (.b (tWord p0)) [] := by
 refine QC.of_body tabOK func115 rfl (by kernel_rfl) ?_
 simp only [f115]
 generalize e : tWord p0 = R
 unfold tWord at e
 refine SR ?_
 simp -implicitDefEqProofs
 refine EV.seq ?_
 obtain ⟨y1_9, gy1_9⟩ : ∃ z, (p0.getD 0 0) = z := ⟨_, rfl⟩
 replace e := bnd_on e gy1_9
 try dsimp only at e
 refine EV.nrm (fun _ : Unit => (⟨[J, J, .b ((((!(decide (p0 = ([] : List UInt8)))) && (decide ((p0.length : Int) ≤ 24))) && (tLetter (y1_9.toNat : Int))) && (decide ((tLen p0 tInner) = (p0.length : Int)))), J, J, J, J, J, J, J, J, J, J, J, J, J, J, J, J, J, J, J], []⟩ : St)) ?_ ?_
 ·skip
  by_cases k2 : p0 = ([] : List UInt8)
  ·skip
   have kk2 := k2
   try simp at kk2
   refine RG ?_
   simp -implicitDefEqProofs +contextual [k2, kk2]
   refine ⟨(), ?_⟩
   try dsimp only
   refine Sub.cutF 0 (by simp) ?_ ?_ <;> simp [List.range_succ, toIdx_range, passed, k2, kk2]
  have kk2 := k2
  try simp at kk2
  by_cases k3 : (p0.length : Int) ≤ 24
  ·skip
   have kk3 := k3
   try simp at kk3
   cases k4 : (tLetter (y1_9.toNat : Int))
   ·skip
    have kk4 := k4
    try simp at kk4
    have b5 : 0 ≤ 0 ∧ 0 < (p0.length : Int) := by (first | omega | (have := List.length_pos_iff.2 (by assumption); omega))
    have c5 : 0 < p0.length := by omega
    have hy1_9 : p0[0] = y1_9 := by rw [← gy1_9, List.getD_eq_getElem?_getD, List.getElem?_eq_getElem c5]; rfl
    refine RG ?_
    simp -implicitDefEqProofs +contextual [k2, kk2, k3, kk3, k4, kk4, b5, c5, hy1_9]
    refine callG_fun (w_tLetter (y1_9.toNat : Int)) ?_ ?_
    ·first | (simp; done) | (simp [k2, kk2, k3, kk3, k4, kk4, b5, c5, hy1_9]; done)
    simp -implicitDefEqProofs +contextual [k2, kk2, k3, kk3, k4, kk4, b5, c5, hy1_9]
    refine ⟨(), ?_⟩
    try dsimp only
    refine Sub.cutF 0 (by simp) ?_ ?_ <;> simp [List.range_succ, toIdx_range, passed, k2, kk2, k3, kk3, k4, kk4, b5, c5, hy1_9]
   have kk4 := k4
   try simp at kk4
   have b6 : 0 ≤ 0 ∧ 0 < (p0.length : Int) := by (first | omega | (have := List.length_pos_iff.2 (by assumption); omega))
   have c6 : 0 < p0.length := by omega
   have hy1_9 : p0[0] = y1_9 := by rw [← gy1_9, List.getD_eq_getElem?_getD, List.getElem?_eq_getElem c6]; rfl
   refine RG ?_
   simp -implicitDefEqProofs +contextual [k2, kk2, k3, kk3, k4, kk4, b6, c6, hy1_9]
   refine callG_fun (w_tLetter (y1_9.toNat : Int)) ?_ ?_
   ·first | (simp; done) | (simp [k2, kk2, k3, kk3, k4, kk4, b6, c6, hy1_9]; done)
   simp -implicitDefEqProofs +contextual [k2, kk2, k3, kk3, k4, kk4, b6, c6, hy1_9]
   refine callG_fun (w_tLenI p0 (by first | omega | (simp at *; omega))) ?_ ?_
   ·first | (simp; done) | (simp [k2, kk2, k3, kk3, k4, kk4, b6, c6, hy1_9]; done)
   simp -implicitDefEqProofs +contextual [k2, kk2, k3, kk3, k4, kk4, b6, c6, hy1_9]
   refine ⟨(), ?_⟩
   try dsimp only
   refine Sub.cutF 0 (by simp) ?_ ?_ <;> simp [List.range_succ, toIdx_range, passed, k2, kk2, k3, kk3, k4, kk4, b6, c6, hy1_9]
  have kk3 := k3
  try simp at kk3
  refine RG ?_
  simp -implicitDefEqProofs +contextual [k2, kk2, k3, kk3]
  refine ⟨(), ?_⟩
  try dsimp only
  refine Sub.cutF 0 (by simp) ?_ ?_ <;> simp [List.range_succ, toIdx_range, passed, k2, kk2, k3, kk3]
 rintro _
 simp only [KN1, KN2, KN3, KN4]
 refine EV.ret ?_
 simp only [KR1, KR2, KR3, KR4]
 subst e
 refine Fin.pure0 ?_
 first | (simp; done) | (simp <;> grind)

theorem tWord_pos {s : List UInt8} (h : tWord s = true) : 0 < s.length ∧ s.length ≤ 24 := by
 unfold tWord bnd at h
 simp at h
 have h2 := List.length_pos_iff.2 h.1.1.1
 omega

def tUpper (p0 : List UInt8) : Bool :=
 (bnd (p0.getD 0 0) fun (y1_4 : UInt8) => ((tWord p0) && (decide ((y1_4.toNat : Int) ≤ 90))))
theorem w_tUpper (p0 : List UInt8)  : QC prog 112 [.s p0] [] (.b (tUpper p0)) [] := by
 refine QC.of_body tabOK func112 rfl (by kernel_rfl) ?_
 simp only [f112]
 generalize e : tUpper p0 = R
 unfold tUpper at e
 refine SR ?_
 simp -implicitDefEqProofs
 refine EV.seq ?_
 obtain ⟨y1_4, gy1_4⟩ : ∃ z, (p0.getD 0 0) = z := ⟨_, rfl⟩
 replace e := bnd_on e gy1_4
 try dsimp only at e
 refine EV.nrm (fun _ : Unit => (⟨[J, J, .b ((tWord p0) && (decide ((y1_4.toNat : Int) ≤ 90))), J, J, J, J, J, J, J], []⟩ : St)) ?_ ?_
 ·skip
  cases k2 : (tWord p0)
  ·skip
   have kk2 := k2
   try simp at kk2
   refine RG ?_
   simp -implicitDefEqProofs +contextual [k2, kk2]
   refine callG_fun (w_tWord p0) ?_ ?_
   ·first | (simp; done) | (simp [k2, kk2]; done)
   simp -implicitDefEqProofs +contextual [k2, kk2]
   refine ⟨(), ?_⟩
   try dsimp only
   refine Sub.cutF 0 (by simp) ?_ ?_ <;> simp [List.range_succ, toIdx_range, passed, k2, kk2]
  have kk2 := k2
  try simp at kk2
  have b3 : 0 ≤ 0 ∧ 0 < (p0.length : Int) := by (have hw := tWord_pos (by assumption); omega)
  have c3 : 0 < p0.length := by omega
  have hy1_4 : p0[0] = y1_4 := by rw [← gy1_4, List.getD_eq_getElem?_getD, List.getElem?_eq_getElem c3]; rfl
  refine RG ?_
  simp -implicitDefEqProofs +contextual [k2, kk2, b3, c3, hy1_4]
  refine callG_fun (w_tWord p0) ?_ ?_
  ·first | (simp; done) | (simp [k2, kk2, b3, c3, hy1_4]; done)
  simp -implicitDefEqProofs +contextual [k2, kk2, b3, c3, hy1_4]
  refine ⟨(), ?_⟩
  try dsimp only
  refine Sub.cutF 0 (by simp) ?_ ?_ <;> simp [List.range_succ, toIdx_range, passed, k2, kk2, b3, c3, hy1_4]
 ·skip
  rintro _
  simp only [KN1, KN2, KN3, KN4]
  refine EV.ret ?_
  simp only [KR1, KR2, KR3, KR4]
  subst e
  refine Fin.pure0 ?_
  first | (simp; done) | (simp <;> grind)
def resWords : List (List UInt8) := ([([115, 116, 114, 117, 99, 116] : List UInt8), ([101, 110, 117, 109] : List UInt8), ([99, 111] : List UInt8), ([108, 101, 116] : List UInt8), ([105, 102] : List UInt8), ([101, 108, 115, 101] : List UInt8), ([119, 104, 105, 108, 101] : List UInt8), ([109, 97, 116, 99, 104] : List UInt8), ([121, 105, 101, 108, 100] : List UInt8), ([114, 101, 116, 117, 114, 110] : List UInt8), ([112, 114, 105, 110, 116] : List UInt8), ([100, 114, 111, 112] : List UInt8), ([98, 111, 120] : List UInt8), ([117, 110, 98, 111, 120] : List UInt8), ([115, 116, 97, 114, 116] : List UInt8), ([97, 119, 97, 105, 116] : List UInt8), ([112, 111, 108, 108] : List UInt8), ([119, 97, 105, 116] : List UInt8), ([109, 117, 116] : List UInt8), ([105, 110, 116] : List UInt8)] : List (List UInt8))
def rReserved_l3 (p0 : List UInt8) : List (List UInt8) → Ctl (Bool) (Unit)
 | [] => .go ()
 | x3 :: xs3 => (if x3 = p0 then .ret true else rReserved_l3 p0 xs3)
def rReserved (p0 : List UInt8) : Bool :=
 (Ctl.run (rReserved_l3 p0 resWords) fun (v3 : Unit) => false)
def tReserved (p0 : List UInt8) : Bool :=
 (if p0 = ([115, 116, 114, 117, 99, 116] : List UInt8) then true else (if p0 = ([101, 110, 117, 109] : List UInt8) then true else (if p0 = ([99, 111] : List UInt8) then true else (if p0 = ([108, 101, 116] : List UInt8) then true else (if p0 = ([105, 102] : List UInt8) then true else (if p0 = ([101, 108, 115, 101] : List UInt8) then true else (if p0 = ([119, 104, 105, 108, 101] : List UInt8) then true else (if p0 = ([109, 97, 116, 99, 104] : List UInt8) then true else (if p0 = ([121, 105, 101, 108, 100] : List UInt8) then true else (if p0 = ([114, 101, 116, 117, 114, 110] : List UInt8) then true else (if p0 = ([112, 114, 105, 110, 116] : List UInt8) then true else (if p0 = ([100, 114, 111, 112] : List UInt8) then true else (if p0 = ([98, 111, 120] : List UInt8) then true else (if p0 = ([117, 110, 98, 111, 120] : List UInt8) then true else (if p0 = ([115, 116, 97, 114, 116] : List UInt8) then true else (if p0 = ([97, 119, 97, 105, 116] : List UInt8) then true else (if p0 = ([112, 111, 108, 108] : List UInt8) then true else (if p0 = ([119, 97, 105, 116] : List UInt8) then true else (if p0 = ([109, 117, 116] : List UInt8) then true else (if p0 = ([105, 110, 116] : List UInt8) then true else false))))))))))))))))))))
theorem w_tReserved (p0 : List UInt8)  : QC prog 113 [.s p0] [] (.b (tReserved p0)) [] := by
 refine QC.of_body tabOK func113 rfl (by kernel_rfl) ?_
 simp only [f113]
 generalize e : tReserved p0 = R
 unfold tReserved at e
 refine SR ?_
 simp -implicitDefEqProofs
 refine EV.seq (SR ?_)
 simp -implicitDefEqProofs
 refine EV.block ?_
 refine EV.rounds 21 ?_
 refine ER.succ ?_
 refine SR ?_
 simp -implicitDefEqProofs
 refine EV.seq ?_
 refine EV.condT ?_
 simp -implicitDefEqProofs
 refine EV.skip ?_
 simp only [KN1, KN2, KN3]
 refine EV.seq (EV.block (SR ?_))
 simp -implicitDefEqProofs
 refine SR ?_
 simp -implicitDefEqProofs
 refine EV.condT ?_
 simp -implicitDefEqProofs
 refine condT_intro (fun k1 => ?_) (fun k1 => ?_)
 ·try simp at k1
  obtain ⟨f1, e⟩ := PO e k1
  try simp at f1
  refine SR ?_
  simp -implicitDefEqProofs
  refine EV.ret ?_
  simp only [KR1, KR2, KR3, KR4]
  subst e
  refine Fin.pure0 ?_
  first | (simp; done) | (simp <;> grind)
 ·try simp at k1
  obtain ⟨f1, e⟩ := NO e k1
  try simp at f1
  refine EV.skip ?_
  simp only [KN1, KN2, KN3]
  refine RG ?_
  simp -implicitDefEqProofs
  refine ER.succ ?_
  refine SR ?_
  simp -implicitDefEqProofs
  refine EV.seq ?_
  refine EV.condT ?_
  simp -implicitDefEqProofs
  refine EV.skip ?_
  simp only [KN1, KN2, KN3]
  refine EV.seq (EV.block (SR ?_))
  simp -implicitDefEqProofs
  refine SR ?_
  simp -implicitDefEqProofs
  refine EV.condT ?_
  simp -implicitDefEqProofs
  refine condT_intro (fun k2 => ?_) (fun k2 => ?_)
  ·try simp at k2
   obtain ⟨f2, e⟩ := PO e k2
   try simp at f2
   refine SR ?_
   simp -implicitDefEqProofs
   refine EV.ret ?_
   simp only [KR1, KR2, KR3, KR4]
   subst e
   refine Fin.pure0 ?_
   first | (simp; done) | (simp <;> grind)
  ·try simp at k2
   obtain ⟨f2, e⟩ := NO e k2
   try simp at f2
   refine EV.skip ?_
   simp only [KN1, KN2, KN3]
   refine RG ?_
   simp -implicitDefEqProofs
   refine ER.succ ?_
   refine SR ?_
   simp -implicitDefEqProofs
   refine EV.seq ?_
   refine EV.condT ?_
   simp -implicitDefEqProofs
   refine EV.skip ?_
   simp only [KN1, KN2, KN3]
   refine EV.seq (EV.block (SR ?_))
   simp -implicitDefEqProofs
   refine SR ?_
   simp -implicitDefEqProofs
   refine EV.condT ?_
   simp -implicitDefEqProofs
   refine condT_intro (fun k3 => ?_) (fun k3 => ?_)
   ·try simp at k3
    obtain ⟨f3, e⟩ := PO e k3
    try simp at f3
    refine SR ?_
    simp -implicitDefEqProofs
    refine EV.ret ?_
    simp only [KR1, KR2, KR3, KR4]
    subst e
    refine Fin.pure0 ?_
    first | (simp; done) | (simp <;> grind)
   ·try simp at k3
    obtain ⟨f3, e⟩ := NO e k3
    try simp at f3
    refine EV.skip ?_
    simp only [KN1, KN2, KN3]
    refine RG ?_
    simp -implicitDefEqProofs
    refine ER.succ ?_
    refine SR ?_
    simp -implicitDefEqProofs
    refine EV.seq ?_
    refine EV.condT ?_
    simp -implicitDefEqProofs
    refine EV.skip ?_
    simp only [KN1, KN2, KN3]
    refine EV.seq (EV.block (SR ?_))
    simp -implicitDefEqProofs
    refine SR ?_
    simp -implicitDefEqProofs
    refine EV.condT ?_
    simp -implicitDefEqProofs
    refine condT_intro (fun k4 => ?_) (fun k4 => ?_)
    ·try simp at k4
     obtain ⟨f4, e⟩ := PO e k4
     try simp at f4
     refine SR ?_
     simp -implicitDefEqProofs
     refine EV.ret ?_
     simp only [KR1, KR2, KR3, KR4]
     subst e
     refine Fin.pure0 ?_
     first | (simp; done) | (simp <;> grind)
    ·try simp at k4
     obtain ⟨f4, e⟩ := NO e k4
     try simp at f4
     refine EV.skip ?_
     simp only [KN1, KN2, KN3]
     refine RG ?_
     simp -implicitDefEqProofs
     refine ER.succ ?_
     refine SR ?_
     simp -implicitDefEqProofs
     refine EV.seq ?_
     refine EV.condT ?_
     simp -implicitDefEqProofs
     refine EV.skip ?_
     simp only [KN1, KN2, KN3]
     refine EV.seq (EV.block (SR ?_))
     simp -implicitDefEqProofs
     refine SR ?_
     simp -implicitDefEqProofs
     refine EV.condT ?_
     simp -implicitDefEqProofs
     refine condT_intro (fun k5 => ?_) (fun k5 => ?_)
     ·try simp at k5
      obtain ⟨f5, e⟩ := PO e k5
      try simp at f5
      refine SR ?_
      simp -implicitDefEqProofs
      refine EV.ret ?_
      simp only [KR1, KR2, KR3, KR4]
      subst e
      refine Fin.pure0 ?_
      first | (simp; done) | (simp <;> grind)
     ·try simp at k5
      obtain ⟨f5, e⟩ := NO e k5
      try simp at f5
      refine EV.skip ?_
      simp only [KN1, KN2, KN3]
      refine RG ?_
      simp -implicitDefEqProofs
      refine ER.succ ?_
      refine SR ?_
      simp -implicitDefEqProofs
      refine EV.seq ?_
      refine EV.condT ?_
      simp -implicitDefEqProofs
      refine EV.skip ?_
      simp only [KN1, KN2, KN3]
      refine EV.seq (EV.block (SR ?_))
      simp -implicitDefEqProofs
      refine SR ?_
      simp -implicitDefEqProofs
      refine EV.condT ?_
      simp -implicitDefEqProofs
      refine condT_intro (fun k6 => ?_) (fun k6 => ?_)
      ·try simp at k6
       obtain ⟨f6, e⟩ := PO e k6
       try simp at f6
       refine SR ?_
       simp -implicitDefEqProofs
       refine EV.ret ?_
       simp only [KR1, KR2, KR3, KR4]
       subst e
       refine Fin.pure0 ?_
       first | (simp; done) | (simp <;> grind)
      ·try simp at k6
       obtain ⟨f6, e⟩ := NO e k6
       try simp at f6
       refine EV.skip ?_
       simp only [KN1, KN2, KN3]
       refine RG ?_
       simp -implicitDefEqProofs
       refine ER.succ ?_
       refine SR ?_
       simp -implicitDefEqProofs
       refine EV.seq ?_
       refine EV.condT ?_
       simp -implicitDefEqProofs
       refine EV.skip ?_
       simp only [KN1, KN2, KN3]
       refine EV.seq (EV.block (SR ?_))
       simp -implicitDefEqProofs
       refine SR ?_
       simp -implicitDefEqProofs
       refine EV.condT ?_
       simp -implicitDefEqProofs
       refine condT_intro (fun k7 => ?_) (fun k7 => ?_)
       ·try simp at k7
        obtain ⟨f7, e⟩ := PO e k7
        try simp at f7
        refine SR ?_
        simp -implicitDefEqProofs
        refine EV.ret ?_
        simp only [KR1, KR2, KR3, KR4]
        subst e
        refine Fin.pure0 ?_
        first | (simp; done) | (simp <;> grind)
       ·try simp at k7
        obtain ⟨f7, e⟩ := NO e k7
        try simp at f7
        refine EV.skip ?_
        simp only [KN1, KN2, KN3]
        refine RG ?_
        simp -implicitDefEqProofs
        refine ER.succ ?_
        refine SR ?_
        simp -implicitDefEqProofs
        refine EV.seq ?_
        refine EV.condT ?_
        simp -implicitDefEqProofs
        refine EV.skip ?_
        simp only [KN1, KN2, KN3]
        refine EV.seq (EV.block (SR ?_))
        simp -implicitDefEqProofs
        refine SR ?_
        simp -implicitDefEqProofs
        refine EV.condT ?_
        simp -implicitDefEqProofs
        refine condT_intro (fun k8 => ?_) (fun k8 => ?_)
        ·try simp at k8
         obtain ⟨f8, e⟩ := PO e k8
         try simp at f8
         refine SR ?_
         simp -implicitDefEqProofs
         refine EV.ret ?_
         simp only [KR1, KR2, KR3, KR4]
         subst e
         refine Fin.pure0 ?_
         first | (simp; done) | (simp <;> grind)
        ·try simp at k8
         obtain ⟨f8, e⟩ := NO e k8
         try simp at f8
         refine EV.skip ?_
         simp only [KN1, KN2, KN3]
         refine RG ?_
         simp -implicitDefEqProofs
         refine ER.succ ?_
         refine SR ?_
         simp -implicitDefEqProofs
         refine EV.seq ?_
         refine EV.condT ?_
         simp -implicitDefEqProofs
         refine EV.skip ?_
         simp only [KN1, KN2, KN3]
         refine EV.seq (EV.block (SR ?_))
         simp -implicitDefEqProofs
         refine SR ?_
         simp -implicitDefEqProofs
         refine EV.condT ?_
         simp -implicitDefEqProofs
         refine condT_intro (fun k9 => ?_) (fun k9 => ?_)
         ·try simp at k9
          obtain ⟨f9, e⟩ := PO e k9
          try simp at f9
          refine SR ?_
          simp -implicitDefEqProofs
          refine EV.ret ?_
          simp only [KR1, KR2, KR3, KR4]
          subst e
          refine Fin.pure0 ?_
          first | (simp; done) | (simp <;> grind)
         ·try simp at k9
          obtain ⟨f9, e⟩ := NO e k9
          try simp at f9
          refine EV.skip ?_
          simp only [KN1, KN2, KN3]
          refine RG ?_
          simp -implicitDefEqProofs
          refine ER.succ ?_
          refine SR ?_
          simp -implicitDefEqProofs
          refine EV.seq ?_
          refine EV.condT ?_
          simp -implicitDefEqProofs
          refine EV.skip ?_
          simp only [KN1, KN2, KN3]
          refine EV.seq (EV.block (SR ?_))
          simp -implicitDefEqProofs
          refine SR ?_
          simp -implicitDefEqProofs
          refine EV.condT ?_
          simp -implicitDefEqProofs
          refine condT_intro (fun k10 => ?_) (fun k10 => ?_)
          ·try simp at k10
           obtain ⟨f10, e⟩ := PO e k10
           try simp at f10
           refine SR ?_
           simp -implicitDefEqProofs
           refine EV.ret ?_
           simp only [KR1, KR2, KR3, KR4]
           subst e
           refine Fin.pure0 ?_
           first | (simp; done) | (simp <;> grind)
          ·try simp at k10
           obtain ⟨f10, e⟩ := NO e k10
           try simp at f10
           refine EV.skip ?_
           simp only [KN1, KN2, KN3]
           refine RG ?_
           simp -implicitDefEqProofs
           refine ER.succ ?_
           refine SR ?_
           simp -implicitDefEqProofs
           refine EV.seq ?_
           refine EV.condT ?_
           simp -implicitDefEqProofs
           refine EV.skip ?_
           simp only [KN1, KN2, KN3]
           refine EV.seq (EV.block (SR ?_))
           simp -implicitDefEqProofs
           refine SR ?_
           simp -implicitDefEqProofs
           refine EV.condT ?_
           simp -implicitDefEqProofs
           refine condT_intro (fun k11 => ?_) (fun k11 => ?_)
           ·try simp at k11
            obtain ⟨f11, e⟩ := PO e k11
            try simp at f11
            refine SR ?_
            simp -implicitDefEqProofs
            refine EV.ret ?_
            simp only [KR1, KR2, KR3, KR4]
            subst e
            refine Fin.pure0 ?_
            first | (simp; done) | (simp <;> grind)
           ·try simp at k11
            obtain ⟨f11, e⟩ := NO e k11
            try simp at f11
            refine EV.skip ?_
            simp only [KN1, KN2, KN3]
            refine RG ?_
            simp -implicitDefEqProofs
            refine ER.succ ?_
            refine SR ?_
            simp -implicitDefEqProofs
            refine EV.seq ?_
            refine EV.condT ?_
            simp -implicitDefEqProofs
            refine EV.skip ?_
            simp only [KN1, KN2, KN3]
            refine EV.seq (EV.block (SR ?_))
            simp -implicitDefEqProofs
            refine SR ?_
            simp -implicitDefEqProofs
            refine EV.condT ?_
            simp -implicitDefEqProofs
            refine condT_intro (fun k12 => ?_) (fun k12 => ?_)
            ·try simp at k12
             obtain ⟨f12, e⟩ := PO e k12
             try simp at f12
             refine SR ?_
             simp -implicitDefEqProofs
             refine EV.ret ?_
             simp only [KR1, KR2, KR3, KR4]
             subst e
             refine Fin.pure0 ?_
             first | (simp; done) | (simp <;> grind)
            ·try simp at k12
             obtain ⟨f12, e⟩ := NO e k12
             try simp at f12
             refine EV.skip ?_
             simp only [KN1, KN2, KN3]
             refine RG ?_
             simp -implicitDefEqProofs
             refine ER.succ ?_
             refine SR ?_
             simp -implicitDefEqProofs
             refine EV.seq ?_
             refine EV.condT ?_
             simp -implicitDefEqProofs
             refine EV.skip ?_
             simp only [KN1, KN2, KN3]
             refine EV.seq (EV.block (SR ?_))
             simp -implicitDefEqProofs
             refine SR ?_
             simp -implicitDefEqProofs
             refine EV.condT ?_
             simp -implicitDefEqProofs
             refine condT_intro (fun k13 => ?_) (fun k13 => ?_)
             ·try simp at k13
              obtain ⟨f13, e⟩ := PO e k13
              try simp at f13
              refine SR ?_
              simp -implicitDefEqProofs
              refine EV.ret ?_
              simp only [KR1, KR2, KR3, KR4]
              subst e
              refine Fin.pure0 ?_
              first | (simp; done) | (simp <;> grind)
             ·try simp at k13
              obtain ⟨f13, e⟩ := NO e k13
              try simp at f13
              refine EV.skip ?_
              simp only [KN1, KN2, KN3]
              refine RG ?_
              simp -implicitDefEqProofs
              refine ER.succ ?_
              refine SR ?_
              simp -implicitDefEqProofs
              refine EV.seq ?_
              refine EV.condT ?_
              simp -implicitDefEqProofs
              refine EV.skip ?_
              simp only [KN1, KN2, KN3]
              refine EV.seq (EV.block (SR ?_))
              simp -implicitDefEqProofs
              refine SR ?_
              simp -implicitDefEqProofs
              refine EV.condT ?_
              simp -implicitDefEqProofs
              refine condT_intro (fun k14 => ?_) (fun k14 => ?_)
              ·try simp at k14
               obtain ⟨f14, e⟩ := PO e k14
               try simp at f14
               refine SR ?_
               simp -implicitDefEqProofs
               refine EV.ret ?_
               simp only [KR1, KR2, KR3, KR4]
               subst e
               refine Fin.pure0 ?_
               first | (simp; done) | (simp <;> grind)
              ·try simp at k14
               obtain ⟨f14, e⟩ := NO e k14
               try simp at f14
               refine EV.skip ?_
               simp only [KN1, KN2, KN3]
               refine RG ?_
               simp -implicitDefEqProofs
               refine ER.succ ?_
               refine SR ?_
               simp -implicitDefEqProofs
               refine EV.seq ?_
               refine EV.condT ?_
               simp -implicitDefEqProofs
               refine EV.skip ?_
               simp only [KN1, KN2, KN3]
               refine EV.seq (EV.block (SR ?_))
               simp -implicitDefEqProofs
               refine SR ?_
               simp -implicitDefEqProofs
               refine EV.condT ?_
               simp -implicitDefEqProofs
               refine condT_intro (fun k15 => ?_) (fun k15 => ?_)
               ·try simp at k15
                obtain ⟨f15, e⟩ := PO e k15
                try simp at f15
                refine SR ?_
                simp -implicitDefEqProofs
                refine EV.ret ?_
                simp only [KR1, KR2, KR3, KR4]
                subst e
                refine Fin.pure0 ?_
                first | (simp; done) | (simp <;> grind)
               ·try simp at k15
                obtain ⟨f15, e⟩ := NO e k15
                try simp at f15
                refine EV.skip ?_
                simp only [KN1, KN2, KN3]
                refine RG ?_
                simp -implicitDefEqProofs
                refine ER.succ ?_
                refine SR ?_
                simp -implicitDefEqProofs
                refine EV.seq ?_
                refine EV.condT ?_
                simp -implicitDefEqProofs
                refine EV.skip ?_
                simp only [KN1, KN2, KN3]
                refine EV.seq (EV.block (SR ?_))
                simp -implicitDefEqProofs
                refine SR ?_
                simp -implicitDefEqProofs
                refine EV.condT ?_
                simp -implicitDefEqProofs
                refine condT_intro (fun k16 => ?_) (fun k16 => ?_)
                ·try simp at k16
                 obtain ⟨f16, e⟩ := PO e k16
                 try simp at f16
                 refine SR ?_
                 simp -implicitDefEqProofs
                 refine EV.ret ?_
                 simp only [KR1, KR2, KR3, KR4]
                 subst e
                 refine Fin.pure0 ?_
                 first | (simp; done) | (simp <;> grind)
                ·try simp at k16
                 obtain ⟨f16, e⟩ := NO e k16
                 try simp at f16
                 refine EV.skip ?_
                 simp only [KN1, KN2, KN3]
                 refine RG ?_
                 simp -implicitDefEqProofs
                 refine ER.succ ?_
                 refine SR ?_
                 simp -implicitDefEqProofs
                 refine EV.seq ?_
                 refine EV.condT ?_
                 simp -implicitDefEqProofs
                 refine EV.skip ?_
                 simp only [KN1, KN2, KN3]
                 refine EV.seq (EV.block (SR ?_))
                 simp -implicitDefEqProofs
                 refine SR ?_
                 simp -implicitDefEqProofs
                 refine EV.condT ?_
                 simp -implicitDefEqProofs
                 refine condT_intro (fun k17 => ?_) (fun k17 => ?_)
                 ·try simp at k17
                  obtain ⟨f17, e⟩ := PO e k17
                  try simp at f17
                  refine SR ?_
                  simp -implicitDefEqProofs
                  refine EV.ret ?_
                  simp only [KR1, KR2, KR3, KR4]
                  subst e
                  refine Fin.pure0 ?_
                  first | (simp; done) | (simp <;> grind)
                 ·try simp at k17
                  obtain ⟨f17, e⟩ := NO e k17
                  try simp at f17
                  refine EV.skip ?_
                  simp only [KN1, KN2, KN3]
                  refine RG ?_
                  simp -implicitDefEqProofs
                  refine ER.succ ?_
                  refine SR ?_
                  simp -implicitDefEqProofs
                  refine EV.seq ?_
                  refine EV.condT ?_
                  simp -implicitDefEqProofs
                  refine EV.skip ?_
                  simp only [KN1, KN2, KN3]
                  refine EV.seq (EV.block (SR ?_))
                  simp -implicitDefEqProofs
                  refine SR ?_
                  simp -implicitDefEqProofs
                  refine EV.condT ?_
                  simp -implicitDefEqProofs
                  refine condT_intro (fun k18 => ?_) (fun k18 => ?_)
                  ·try simp at k18
                   obtain ⟨f18, e⟩ := PO e k18
                   try simp at f18
                   refine SR ?_
                   simp -implicitDefEqProofs
                   refine EV.ret ?_
                   simp only [KR1, KR2, KR3, KR4]
                   subst e
                   refine Fin.pure0 ?_
                   first | (simp; done) | (simp <;> grind)
                  ·try simp at k18
                   obtain ⟨f18, e⟩ := NO e k18
                   try simp at f18
                   refine EV.skip ?_
                   simp only [KN1, KN2, KN3]
                   refine RG ?_
                   simp -implicitDefEqProofs
                   refine ER.succ ?_
                   refine SR ?_
                   simp -implicitDefEqProofs
                   refine EV.seq ?_
                   refine EV.condT ?_
                   simp -implicitDefEqProofs
                   refine EV.skip ?_
                   simp only [KN1, KN2, KN3]
                   refine EV.seq (EV.block (SR ?_))
                   simp -implicitDefEqProofs
                   refine SR ?_
                   simp -implicitDefEqProofs
                   refine EV.condT ?_
                   simp -implicitDefEqProofs
                   refine condT_intro (fun k19 => ?_) (fun k19 => ?_)
                   ·try simp at k19
                    obtain ⟨f19, e⟩ := PO e k19
                    try simp at f19
                    refine SR ?_
                    simp -implicitDefEqProofs
                    refine EV.ret ?_
                    simp only [KR1, KR2, KR3, KR4]
                    subst e
                    refine Fin.pure0 ?_
                    first | (simp; done) | (simp <;> grind)
                   ·try simp at k19
                    obtain ⟨f19, e⟩ := NO e k19
                    try simp at f19
                    refine EV.skip ?_
                    simp only [KN1, KN2, KN3]
                    refine RG ?_
                    simp -implicitDefEqProofs
                    refine ER.succ ?_
                    refine SR ?_
                    simp -implicitDefEqProofs
                    refine EV.seq ?_
                    refine EV.condT ?_
                    simp -implicitDefEqProofs
                    refine EV.skip ?_
                    simp only [KN1, KN2, KN3]
                    refine EV.seq (EV.block (SR ?_))
                    simp -implicitDefEqProofs
                    refine SR ?_
                    simp -implicitDefEqProofs
                    refine EV.condT ?_
                    simp -implicitDefEqProofs
                    refine condT_intro (fun k20 => ?_) (fun k20 => ?_)
                    ·try simp at k20
                     obtain ⟨f20, e⟩ := PO e k20
                     try simp at f20
                     refine SR ?_
                     simp -implicitDefEqProofs
                     refine EV.ret ?_
                     simp only [KR1, KR2, KR3, KR4]
                     subst e
                     refine Fin.pure0 ?_
                     first | (simp; done) | (simp <;> grind)
                    ·try simp at k20
                     obtain ⟨f20, e⟩ := NO e k20
                     try simp at f20
                     refine EV.skip ?_
                     simp only [KN1, KN2, KN3]
                     refine RG ?_
                     simp -implicitDefEqProofs
                     refine ER.succ ?_
                     refine SR ?_
                     simp -implicitDefEqProofs
                     refine EV.seq ?_
                     refine EV.condT ?_
                     simp -implicitDefEqProofs
                     refine EV.exit ?_
                     simp -implicitDefEqProofs
                     refine SR ?_
                     simp -implicitDefEqProofs
                     refine EV.ret ?_
                     simp only [KR1, KR2, KR3, KR4]
                     subst e
                     refine Fin.pure0 ?_
                     first | (simp; done) | (simp <;> grind)
end
end Go.Proofs.Tryz
end
