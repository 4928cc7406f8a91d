/- Contracts of the program's functions over ends. -/
import Derived.Test.YtakfpmogpnoibaaDoorMirB
set_option linter.unusedVariables false
set_option linter.unusedSimpArgs false
set_option linter.constructorNameAsVariable false
section
namespace Go.Proofs.Tryd
open Go Go.AM
attribute [local simp] wpG_op wpG_nil contG_some wpG_guard guardG_v guardG_o guardG_tup gval pureOp stepG_if isPick pickG_pick pickB_b pickOK isCall step_move step_assign step_alloc step_box boxV_some step_load step_store step_binOp step_unOp step_fieldAddr faV step_indexAddr ixA_slc ixA_arr step_extract extV_tup step_nilCheck ncV_ptr ncV_rp ncV_fn ncV_mp step_build buildV step_buildSlice bsV step_index ixV_arr ixV_str step_append apB step_makeSlice msV_i step_makeFunc over step_len step_makeMap mmV step_mapUpdate step_insert muA_map muB_mp step_lookup lkA_map lkB_mp step_slice slcV_s slcV_sl slcV_ro cutB_some slObV_arr bound_none bound_some bndV_i lenB_str lenB_ro lenB_sl lenB_nil lenB_z ld_ptr ld_rp offV_ptr offV_rp idxV_ro idxV_sl unV_not unV_neg binV_int binV_str binV_eqlb binV_neqb intOp strOp St.put updL setOb St.ev toV St.lk cellsOf AM.valOf TK.agg stv fillV places TI.zero condT_true condT_false finS resL resSlot packV ren ren1 ren0 Value.cells builtinV appendV elemsOf keepT room_of wrap_in toIdx passed Function.comp_def take_len_map lenV touchOf hid tab1 tab2 tab3 tab4 tab5 tab6 tab7 tab8 tab9 tab10 tab11 tab12 tab13 tab14 tab15 tab16 tab17 tab18 tab19 tab20 tab21 tab22 tab23 tab24 tab25 tab26 tab27 tab28 tab29 tab30 tab31 tab32 tab33 tab34 tab35 tab36 tab37 tab38 tab39 tab40 tab41 tab42 tab43 tab44 tab45 tab46 tab47 tab48 tab49 tab50 tab51 tab52 tab53 tab54 tab55 tab57 tab58 tab59 tab61 tab62 tab63 tab64 tab65 tab66 tab67 tab68 tab69 tab70 tab71 tab72 tab73 tab74 tab75 tab76 tab77 tab78 tab79 tab80 tab81 tab82 tab83 tab84 tab85 tab86 tab87 tab88 tab89 tab90 tab91 tab92 tab93 tab94 tab95 tab96 tab97 tab98 tab99 tab100 tab101 tab103 tab104 tab105 tab106 tab107 tab108 tab109 tab110 tab111 tab112 tab113 tab114 tab115 tab116 tab117 tab118 tab119 tab120 tab121 tab122 tab123 tab124 tab125 tab126 tab127 tab128 tab129 tab130 tab131 tab132 tab133 tab135 tab137 tab138 tab140 tab141 tab142 tab143 tab144 tab145 tab146 tab147 tab148 tab149 tab150 tab151 tab152 tab153 tab155 tab156 tab157 tab158 tab159 tab160 tab161 tab162 tab163 tab164 tab165 tab166 tab167 tab168 tab170 tab171 tab172 tab173 tab174 tab175 tab176 tab177 tab178 tab179 tab180 tab181 tab182 tab186 tab187 tab188 tab189 tab190 tab191 tab192 tab193 tab194 tab195 armC_eq blockC_eq bodyC_eq enumC_eq fieldC_eq fnC_eq inC_eq localC_eq mirBodyC_eq operC_eq placeC_eq rvC_eq sourceC_eq spotC_eq stepC_eq stmtC_eq structC_eq tmC_eq tyC_eq useC_eq valueC_eq variantC_eq cutL_nil cutL_junk cutL_cons ren_arr ren_gone ren_unborn ren_var ren_row step_convert cvV_i cvV_sl cvV_s cvK_slc cvE_u8 bytesOf bor1 bor2 bor3 bor4
set_option linter.unusedSimpArgs false
set_option linter.unusedVariables false
set_option maxRecDepth 10000
set_option maxHeartbeats 4000000
noncomputable section

def mAsks (p0 : MirBodyD) (p1 : TmD) : Bool :=
 ((((((decide ((mSpot p0 p1.v.s).2.2 = 0)) && (decide ((p1.v.s.path.length : Int) = 0))) && (decide (((mSpot p0 p1.v.s).1).k = 7))) && (mNoValue (ValueD.mk p1.v.k p1.v.uses (SpotD.mk 0 ([])) p1.v.which p1.v.tag))) && (mNoUse p1.u)) && (mSettable p0 p1.s))
set_option maxHeartbeats 40000000 in
theorem w_mAsks (p0 : MirBodyD) (p1 : TmD)  : QC prog 57 [.agg [.ro 4 (p0.s.structs.map structC), .ro 3 (p0.s.enums.map enumC), .ro 4 (p0.s.fns.map fnC), .s p0.b.name, .i .i64 p0.b.params, .ro 4 (p0.b.locals.map localC), .ro 17 (p0.b.blocks.map blockC)], .agg [.i .i64 p1.k, .i .i64 p1.at_, .i .i64 p1.s.local_, .ro 1 (p1.s.path.map (fun z => [.i .i64 z])), .i .i64 p1.v.k, .ro 5 (p1.v.uses.map useC), .i .i64 p1.v.s.local_, .ro 1 (p1.v.s.path.map (fun z => [.i .i64 z])), .i .i64 p1.v.which, .i .i64 p1.v.tag, .b p1.u.num, .i .i64 p1.u.n, .b p1.u.move, .i .i64 p1.u.s.local_, .ro 1 (p1.u.s.path.map (fun z => [.i .i64 z])), .ro 1 (p1.to_.map (fun z => [.i .i64 z]))]] [] (.b (mAsks p0 p1)) [] := by
 refine QC.of_body tabOK func57 rfl (by kernel_rfl) ?_
 simp only [f57]
 generalize e : mAsks p0 p1 = R
 unfold mAsks at e
 refine EV.seq ?_
 refine EV.regionG tabOK ?_ -- region 0
 simp (maxSteps := 2000000) -implicitDefEqProofs
 refine EV.seq ?_
 refine EV.regionG tabOK ?_ -- region 1
 simp (maxSteps := 2000000) -implicitDefEqProofs
 refine EV.seq ?_
 refine EV.regionG tabOK ?_ -- region 2
 simp (maxSteps := 2000000) -implicitDefEqProofs
 refine callG_fun (w_mSpot p0 p1.v.s) ?_ ?_
 ·simp
 simp (maxSteps := 2000000) -implicitDefEqProofs
 refine EV.seq ?_
 refine EV.regionG tabOK ?_ -- region 3
 simp (maxSteps := 2000000) -implicitDefEqProofs
 refine EV.seq ?_
 refine EV.regionG tabOK ?_ -- region 4
 simp (maxSteps := 2000000) -implicitDefEqProofs
 refine EV.seq ?_
 refine EV.nrm (fun _ : Unit => (⟨[J, J, J, J, .b ((((((decide ((mSpot p0 p1.v.s).2.2 = 0)) && (decide ((p1.v.s.path.length : Int) = 0))) && (decide (((mSpot p0 p1.v.s).1).k = 7))) && (mNoValue (ValueD.mk p1.v.k p1.v.uses (SpotD.mk 0 ([])) p1.v.which p1.v.tag))) && (mNoUse p1.u)) && (mSettable p0 p1.s)), J, J, J, J, J, J, J, J, J, J, J, J, J, J, J, J, J, J, J, J, J, J, J, J, J, J, J, J, J, J, J, J, J, J, J, J, J, J, J, J, J, J, J, J, J, J, J], []⟩ : St)) ?_ ?_
 ·skip
  by_cases k2 : (mSpot p0 p1.v.s).2.2 = 0
  ·skip
   have kk2 := k2
   try simp at kk2
   by_cases k3 : (p1.v.s.path.length : Int) = 0
   ·skip
    have kk3 := k3
    try simp at kk3
    by_cases k4 : ((mSpot p0 p1.v.s).1).k = 7
    ·skip
     have kk4 := k4
     try simp at kk4
     cases k5 : (mNoValue (ValueD.mk p1.v.k p1.v.uses (SpotD.mk 0 ([])) p1.v.which p1.v.tag))
     ·skip
      have kk5 := k5
      try simp at kk5
      refine EV.regionG tabOK ?_ -- region 5
      simp (maxSteps := 2000000) -implicitDefEqProofs +contextual [k2, kk2, k3, kk3, k4, kk4, k5, kk5]
      refine callG_data [] (w_mNoValue (ValueD.mk p1.v.k p1.v.uses (SpotD.mk 0 ([])) p1.v.which p1.v.tag)) ?_ ?_ ?_
      ·simp [allP, allR, c0, ld1, ld0, cvOb, Pu, take_len_map, List.getD, List.range_succ]
      ·first | trivial | simp [nr, nr1, nr0]
      simp (maxSteps := 2000000) -implicitDefEqProofs +contextual [k2, kk2, k3, kk3, k4, kk4, k5, kk5]
      refine ⟨(), ?_⟩
      try dsimp only
      refine Sub.cutF 0 (by simp) ?_ ?_ <;> simp [List.range_succ, toIdx_range, passed, k2, kk2, k3, kk3, k4, kk4, k5, kk5]
     ·skip
      have kk5 := k5
      try simp at kk5
      cases k6 : (mNoUse p1.u)
      ·skip
       have kk6 := k6
       try simp at kk6
       refine EV.regionG tabOK ?_ -- region 5
       simp (maxSteps := 2000000) -implicitDefEqProofs +contextual [k2, kk2, k3, kk3, k4, kk4, k5, kk5, k6, kk6]
       refine callG_data [] (w_mNoValue (ValueD.mk p1.v.k p1.v.uses (SpotD.mk 0 ([])) p1.v.which p1.v.tag)) ?_ ?_ ?_
       ·simp [allP, allR, c0, ld1, ld0, cvOb, Pu, take_len_map, List.getD, List.range_succ]
       ·first | trivial | simp [nr, nr1, nr0]
       simp (maxSteps := 2000000) -implicitDefEqProofs +contextual [k2, kk2, k3, kk3, k4, kk4, k5, kk5, k6, kk6]
       refine callG_fun (w_mNoUse p1.u) ?_ ?_
       ·first | (simp; done) | (simp [k2, kk2, k3, kk3, k4, kk4, k5, kk5, k6, kk6]; done)
       simp (maxSteps := 2000000) -implicitDefEqProofs +contextual [k2, kk2, k3, kk3, k4, kk4, k5, kk5, k6, kk6]
       refine ⟨(), ?_⟩
       try dsimp only
       refine Sub.cutF 0 (by simp) ?_ ?_ <;> simp [List.range_succ, toIdx_range, passed, k2, kk2, k3, kk3, k4, kk4, k5, kk5, k6, kk6]
      ·skip
       have kk6 := k6
       try simp at kk6
       refine EV.regionG tabOK ?_ -- region 5
       simp (maxSteps := 2000000) -implicitDefEqProofs +contextual [k2, kk2, k3, kk3, k4, kk4, k5, kk5, k6, kk6]
       refine callG_data [] (w_mNoValue (ValueD.mk p1.v.k p1.v.uses (SpotD.mk 0 ([])) p1.v.which p1.v.tag)) ?_ ?_ ?_
       ·simp [allP, allR, c0, ld1, ld0, cvOb, Pu, take_len_map, List.getD, List.range_succ]
       ·first | trivial | simp [nr, nr1, nr0]
       simp (maxSteps := 2000000) -implicitDefEqProofs +contextual [k2, kk2, k3, kk3, k4, kk4, k5, kk5, k6, kk6]
       refine callG_fun (w_mNoUse p1.u) ?_ ?_
       ·first | (simp; done) | (simp [k2, kk2, k3, kk3, k4, kk4, k5, kk5, k6, kk6]; done)
       simp (maxSteps := 2000000) -implicitDefEqProofs +contextual [k2, kk2, k3, kk3, k4, kk4, k5, kk5, k6, kk6]
       refine callG_fun (w_mSettable p0 p1.s) ?_ ?_
       ·first | (simp; done) | (simp [k2, kk2, k3, kk3, k4, kk4, k5, kk5, k6, kk6]; done)
       simp (maxSteps := 2000000) -implicitDefEqProofs +contextual [k2, kk2, k3, kk3, k4, kk4, k5, kk5, k6, kk6]
       refine ⟨(), ?_⟩
       try dsimp only
       refine Sub.cutF 0 (by simp) ?_ ?_ <;> simp [List.range_succ, toIdx_range, passed, k2, kk2, k3, kk3, k4, kk4, k5, kk5, k6, kk6]
    ·skip
     have kk4 := k4
     try simp at kk4
     refine EV.regionG tabOK ?_ -- region 5
     simp (maxSteps := 2000000) -implicitDefEqProofs +contextual [k2, kk2, k3, kk3, k4, kk4]
     refine ⟨(), ?_⟩
     try dsimp only
     refine Sub.cutF 0 (by simp) ?_ ?_ <;> simp [List.range_succ, toIdx_range, passed, k2, kk2, k3, kk3, k4, kk4]
   ·skip
    have kk3 := k3
    try simp at kk3
    refine EV.regionG tabOK ?_ -- region 5
    simp (maxSteps := 2000000) -implicitDefEqProofs +contextual [k2, kk2, k3, kk3]
    refine ⟨(), ?_⟩
    try dsimp only
    refine Sub.cutF 0 (by simp) ?_ ?_ <;> simp [List.range_succ, toIdx_range, passed, k2, kk2, k3, kk3]
  ·skip
   have kk2 := k2
   try simp at kk2
   refine EV.regionG tabOK ?_ -- region 5
   simp (maxSteps := 2000000) -implicitDefEqProofs +contextual [k2, kk2]
   refine ⟨(), ?_⟩
   try dsimp only
   refine Sub.cutF 0 (by simp) ?_ ?_ <;> simp [List.range_succ, toIdx_range, passed, k2, kk2]
 ·skip
  rintro _
  simp only [thenK_normal, blockK_normal, scopeK_normal, bodyK_normal]
  refine EV.ret ?_
  simp only [thenK_ret, blockK_ret, scopeK_ret, bodyK_ret]
  subst e
  refine Fin.pure0 ?_
  first | (simp; done) | (simp <;> grind)

def ixInt_l2 (p1 : Int → Bool) : List Int → Nat → Ctl (Int) (Unit)
 | [], _ => .go ()
 | x2 :: xs2, j2 => (if (p1 x2) = true then .ret (j2 : Int) else ixInt_l2 p1 xs2 (j2 + 1))
def ixInt (p0 : List Int) (p1 : Int → Bool) : Int :=
 (Ctl.run (ixInt_l2 p1 p0 0) fun (v2 : Unit) => (-1))
set_option maxHeartbeats 40000000 in
theorem w_ixInt1 (p0 : List Int) (p1 : Int → Bool)  (csz : Nat) (cc : List V) (hcc : ∀ x ∈ cc, Pu x) (fid1 : FuncId) (H1 : ∀ (u0 : Int), QC prog fid1 [.i .i64 u0, .ptr 0 0 0 0] [.arr 0 csz [cc]] (.b (p1 u0)) [.arr 0 csz [cc]]) : QC prog 82 [.ro 1 (p0.map (fun z => [.i .i64 z])), .fn fid1 [.ptr 0 0 0 0]] [.arr 0 csz [cc]] (.i .i64 (ixInt p0 p1)) [.arr 0 csz [cc]] := by
 refine QC.of_body tabOK func82 rfl (by kernel_rfl) ?_
 simp only [f82]
 generalize e : ixInt p0 p1 = R
 unfold ixInt at e
 have hren : ∀ μ, cc.map (ren0 μ) = cc := fun μ => pu_map hcc
 refine EV.seq ?_
 refine EV.regionG tabOK ?_ -- region 0
 simp (maxSteps := 2000000) -implicitDefEqProofs [hren]
 refine EV.seq ?_
 refine EV.seq ?_
 refine EV.regionG tabOK ?_ -- region 1
 simp (maxSteps := 2000000) -implicitDefEqProofs [hren]
 obtain ⟨z2, e2, e⟩ := run_split e
 refine EV.nrm (fun v : { v : (Unit) × (Unit) // z2 = .go v.1 } => (fun (v2 : Unit) (g2 : Unit) => (⟨[J, J, J, J, J, J, J, J, J, J, J, J, J, J, J, J, J, J, J], [.arr 0 csz [cc]]⟩ : St)) v.1.1 v.1.2) ?_ ?_
 ·skip
  refine EV.block ?_
  refine EV.loopB (fun x : { x : Nat // x ≤ p0.length ∧ ixInt_l2 p1 (p0.drop x) x = z2 } => (fun (j2 : Nat) => (⟨[.ro 1 (p0.map (fun z => [.i .i64 z])), .fn fid1 [.ptr 0 0 0 0], J, J, J, J, J, .i .i64 (p0.length : Int), .i .i64 (j2 : Int), J, J, J, J, J, J, J, J, J, J], [.arr 0 csz [cc]]⟩ : St)) x.1) (fun x => p0.length - x.1) ⟨0, Nat.zero_le _, e2⟩ ?_ ?_
  ·skip
   try dsimp only
   try dsimp only
   refine Sub.cutF 1 (by simp) ?_ ?_ <;> simp [List.range_succ, toIdx_range, passed, hren]
  ·skip
   rintro ⟨j2, hi2, e2⟩
   simp only at hi2 e2 ⊢
   refine EV.seq ?_
   refine EV.regionG tabOK ?_ -- region 2
   simp (maxSteps := 2000000) -implicitDefEqProofs [hren]
   refine EV.seq ?_
   refine EV.room 0 (by rfl) (fun mj2 => ?_)
   simp at mj2
   refine EV.condT ?_
   simp -implicitDefEqProofs [hren]
   refine condT_intro (fun k1 => ?_) (fun k1 => ?_)
   ·try simp at k1
    have u1 : j2 < p0.length := by omega
    obtain ⟨x2, hx2⟩ : ∃ z, p0[j2] = z := ⟨_, rfl⟩
    have mx2 : x2 ∈ p0 := by rw [← hx2]; exact List.getElem_mem _
    rw [List.drop_eq_getElem_cons u1, hx2, ixInt_l2] at e2
    refine EV.skip ?_
    simp only [thenK_normal, blockK_normal, scopeK_normal]
    refine EV.seq ?_
    refine EV.block ?_
    refine EV.seq ?_
    refine EV.regionG tabOK ?_ -- region 3
    simp (maxSteps := 2000000) -implicitDefEqProofs [hren, k1, u1, hx2]
    refine EV.seq ?_
    refine EV.regionG tabOK ?_ -- region 4
    simp (maxSteps := 2000000) -implicitDefEqProofs [hren, k1, u1, hx2]
    refine callG_own [0] rfl (H1 x2) ?_ ?_ ?_ ?_ ?_ ?_
    ·simp [hren]
    ·simp [hren]
    ·simp
    ·simp
    ·simp
    simp (maxSteps := 2000000) -implicitDefEqProofs [hren, k1, u1, hx2, keys, callUpd, List.range_succ]
    refine EV.condT ?_
    simp -implicitDefEqProofs [hren, k1, u1, hx2]
    refine condT_intro (fun k2 => ?_) (fun k2 => ?_)
    ·try simp at k2
     obtain ⟨f2, e2⟩ := pos_on2 e2 (by first | simpa using k2 | grind)
     try simp at f2
     refine EV.seq ?_
     refine EV.regionG tabOK ?_ -- region 5
     simp (maxSteps := 2000000) -implicitDefEqProofs [hren, k1, u1, hx2]
     refine EV.ret ?_
     simp only [thenK_ret, blockK_ret, scopeK_ret, bodyK_ret]
     replace e := run_back e e2
     subst e
     refine Fin.plain ?_ ?_
     ·simp
     ·simp [List.range_succ, hren]
    ·try simp at k2
     obtain ⟨f2, e2⟩ := neg_on2 e2 (by first | simpa using k2 | grind)
     try simp at f2
     refine EV.skip ?_
     simp only [thenK_normal, blockK_normal, scopeK_normal]
     refine EV.regionG tabOK ?_ -- region 6
     simp (maxSteps := 2000000) -implicitDefEqProofs [hren, k1, u1, hx2]
     have w2 : IntKind.i64.wrap ((j2 : Int) + 1) = (j2 : Int) + 1 := wrap_in _ (by omega) (by omega)
     refine ⟨⟨j2 + 1, by omega, e2⟩, by dsimp only; omega, ?_⟩
     try dsimp only
     refine Sub.cutF 1 (by simp) ?_ ?_ <;> simp [List.range_succ, toIdx_range, passed, hren, k1, u1, hx2, w2]
   ·try simp at k1
    have d1 : p0.drop j2 = [] := List.drop_eq_nil_of_le (by omega)
    rw [d1, ixInt_l2] at e2
    refine EV.exit ?_
    simp -implicitDefEqProofs
    refine ⟨⟨((), ()), e2.symm⟩, ?_⟩
    try dsimp only
    refine Sub.cutF 1 (by simp) ?_ ?_ <;> simp [List.range_succ, toIdx_range, passed, hren]
 ·skip
  rintro ⟨⟨v2, g2⟩, e2⟩
  simp only [thenK_normal, blockK_normal, scopeK_normal, bodyK_normal]
  replace e := run_on e e2
  try dsimp only at e
  refine EV.seq ?_
  refine EV.regionG tabOK ?_ -- region 7
  simp (maxSteps := 2000000) -implicitDefEqProofs [hren]
  refine EV.ret ?_
  simp only [thenK_ret, blockK_ret, scopeK_ret, bodyK_ret]
  subst e
  refine Fin.plain ?_ ?_
  ·simp
  ·simp [List.range_succ, hren]


def cfInt (p0 : List Int) (p1 : Int → Bool) : Bool :=
 (decide (0 ≤ (ixInt p0 p1)))
set_option maxHeartbeats 40000000 in
theorem w_cfInt1 (p0 : List Int) (p1 : Int → Bool)  (csz : Nat) (cc : List V) (hcc : ∀ x ∈ cc, Pu x) (fid1 : FuncId) (H1 : ∀ (u0 : Int), QC prog fid1 [.i .i64 u0, .ptr 0 0 0 0] [.arr 0 csz [cc]] (.b (p1 u0)) [.arr 0 csz [cc]]) : QC prog 54 [.ro 1 (p0.map (fun z => [.i .i64 z])), .fn fid1 [.ptr 0 0 0 0]] [.arr 0 csz [cc]] (.b (cfInt p0 p1)) [.arr 0 csz [cc]] := by
 refine QC.of_body tabOK func54 rfl (by kernel_rfl) ?_
 simp only [f54]
 generalize e : cfInt p0 p1 = R
 unfold cfInt at e
 have hren : ∀ μ, cc.map (ren0 μ) = cc := fun μ => pu_map hcc
 refine EV.seq ?_
 refine EV.regionG tabOK ?_ -- region 0
 simp (maxSteps := 2000000) -implicitDefEqProofs [hren]
 refine EV.seq ?_
 refine EV.regionG tabOK ?_ -- region 1
 simp (maxSteps := 2000000) -implicitDefEqProofs [hren]
 refine callG_own [0] rfl (w_ixInt1 p0 p1 csz cc hcc fid1 (H1)) ?_ ?_ ?_ ?_ ?_ ?_
 ·simp [hren]
 ·simp [hren]
 ·simp
 ·simp
 ·simp
 simp (maxSteps := 2000000) -implicitDefEqProofs [hren, keys, callUpd, List.range_succ]
 refine EV.ret ?_
 simp only [thenK_ret, blockK_ret, scopeK_ret, bodyK_ret]
 subst e
 refine Fin.plain ?_ ?_
 ·simp
 ·simp [List.range_succ, hren]


def mTm_1 (c0 : MirBodyD) (p0 : Int) : Bool :=
 ((decide (p0 < 0)) || (decide ((c0.b.blocks.length : Int) ≤ p0)))
set_option maxHeartbeats 40000000 in
theorem w_mTm_1 (c0 : MirBodyD) (p0 : Int)  : QC prog 55 [.i .i64 p0, .ptr 0 0 0 0] [.arr 0 7 [[.ro 4 (c0.s.structs.map structC), .ro 3 (c0.s.enums.map enumC), .ro 4 (c0.s.fns.map fnC), .s c0.b.name, .i .i64 c0.b.params, .ro 4 (c0.b.locals.map localC), .ro 17 (c0.b.blocks.map blockC)]]] (.b (mTm_1 c0 p0)) [.arr 0 7 [[.ro 4 (c0.s.structs.map structC), .ro 3 (c0.s.enums.map enumC), .ro 4 (c0.s.fns.map fnC), .s c0.b.name, .i .i64 c0.b.params, .ro 4 (c0.b.locals.map localC), .ro 17 (c0.b.blocks.map blockC)]]] := by
 refine QC.of_body tabOK func55 rfl (by kernel_rfl) ?_
 simp only [f55]
 generalize e : mTm_1 c0 p0 = R
 unfold mTm_1 at e
 refine EV.seq ?_
 refine EV.regionG tabOK ?_ -- region 0
 simp (maxSteps := 2000000) -implicitDefEqProofs
 refine EV.seq ?_
 refine EV.regionG tabOK ?_ -- region 1
 simp (maxSteps := 2000000) -implicitDefEqProofs +contextual
 refine EV.ret ?_
 simp only [thenK_ret, blockK_ret, scopeK_ret, bodyK_ret]
 subst e
 refine Fin.plain ?_ ?_
 ·simp
 ·simp [List.range_succ]


def mTm (p0 : MirBodyD) (p1 : TmD) : Bool :=
 (if (cfInt p1.to_ (mTm_1 p0)) = true then false else (if p1.k = 0 then (((decide ((p1.to_.length : Int) = 1)) && ((mEmpty p1.s) && (mNoValue p1.v))) && (mNoUse p1.u)) else (if p1.k = 1 then (((decide ((p1.to_.length : Int) = 2)) && ((mEmpty p1.s) && (mNoValue p1.v))) && (mNumber p0 p1.u)) else (if p1.k = 3 then (((decide ((p1.to_.length : Int) = 0)) && ((mEmpty p1.s) && (mNoValue p1.v))) && (mNumber p0 p1.u)) else (if p1.k = 4 then (((decide ((p1.to_.length : Int) = 1)) && ((mEmpty p1.s) && (mNoValue p1.v))) && (mNumber p0 p1.u)) else (if p1.k = 7 then ((((decide ((p1.to_.length : Int) = 1)) && (mNoValue p1.v)) && (mNumber p0 p1.u)) && (mSettable p0 p1.s)) else (bnd (if p1.k = 5 then true else (decide (p1.k = 6))) fun (v17 : Bool) => (if v17 = true then ((decide ((p1.to_.length : Int) = 1)) && (mAsks p0 p1)) else (if p1.k = 2 then ((((mVariants p0 p1.s).2 && (decide ((p1.to_.length : Int) = (((mVariants p0 p1.s).1).length : Int)))) && (mNoValue p1.v)) && (mNoUse p1.u)) else false)))))))))
set_option maxHeartbeats 40000000 in
theorem w_mTm (p0 : MirBodyD) (p1 : TmD)  : QC prog 25 [.agg [.ro 4 (p0.s.structs.map structC), .ro 3 (p0.s.enums.map enumC), .ro 4 (p0.s.fns.map fnC), .s p0.b.name, .i .i64 p0.b.params, .ro 4 (p0.b.locals.map localC), .ro 17 (p0.b.blocks.map blockC)], .agg [.i .i64 p1.k, .i .i64 p1.at_, .i .i64 p1.s.local_, .ro 1 (p1.s.path.map (fun z => [.i .i64 z])), .i .i64 p1.v.k, .ro 5 (p1.v.uses.map useC), .i .i64 p1.v.s.local_, .ro 1 (p1.v.s.path.map (fun z => [.i .i64 z])), .i .i64 p1.v.which, .i .i64 p1.v.tag, .b p1.u.num, .i .i64 p1.u.n, .b p1.u.move, .i .i64 p1.u.s.local_, .ro 1 (p1.u.s.path.map (fun z => [.i .i64 z])), .ro 1 (p1.to_.map (fun z => [.i .i64 z]))]] [] (.b (mTm p0 p1)) [] := by
 refine QC.of_body tabOK func25 rfl (by kernel_rfl) ?_
 simp only [f25]
 generalize e : mTm p0 p1 = R
 unfold mTm at e
 refine EV.seq ?_
 refine EV.regionG tabOK ?_ -- region 0
 simp (maxSteps := 2000000) -implicitDefEqProofs
 refine EV.seq ?_
 refine EV.seq ?_
 refine EV.regionG tabOK ?_ -- region 1
 simp (maxSteps := 2000000) -implicitDefEqProofs
 refine callG_own [0] rfl (w_cfInt1 p1.to_ (mTm_1 p0) 7 [.ro 4 (p0.s.structs.map structC), .ro 3 (p0.s.enums.map enumC), .ro 4 (p0.s.fns.map fnC), .s p0.b.name, .i .i64 p0.b.params, .ro 4 (p0.b.locals.map localC), .ro 17 (p0.b.blocks.map blockC)] (by simp [Pu]) 55 (fun u0  => w_mTm_1 p0 u0)) ?_ ?_ ?_ ?_ ?_ ?_
 ·simp
 ·simp
 ·simp
 ·simp
 ·simp
 simp (maxSteps := 2000000) -implicitDefEqProofs [keys, callUpd, List.range_succ]
 refine EV.condT ?_
 simp -implicitDefEqProofs
 refine condT_intro (fun k1 => ?_) (fun k1 => ?_)
 ·try simp at k1
  obtain ⟨f1, e⟩ := pos_on2 e (by first | simpa using k1 | grind)
  try simp at f1
  refine EV.seq ?_
  refine EV.regionG tabOK ?_ -- region 2
  simp (maxSteps := 2000000) -implicitDefEqProofs
  refine EV.ret ?_
  simp only [thenK_ret, blockK_ret, scopeK_ret, bodyK_ret]
  subst e
  refine Fin.pure0 ?_
  first | (simp; done) | (simp <;> grind)
 ·try simp at k1
  obtain ⟨f1, e⟩ := neg_on2 e (by first | simpa using k1 | grind)
  try simp at f1
  refine EV.skip ?_
  simp only [thenK_normal, blockK_normal, scopeK_normal]
  refine EV.seq ?_
  refine EV.nrm (fun _ : Unit => (⟨[J, J, .ptr 0 0 0 0, .ptr 1 0 0 0, J, .b ((mEmpty p1.s) && (mNoValue p1.v)), J, J, J, J, J, J, J, J, J, J, J, J, J, J, J, J, J, J, J, J, J, J, J, J, J, J, J, J, J, J, J, J, J, J, J, J, J, J, J, J, J, J, J, J, J, J, J, J, J, J, J, J, J, J, J, J, J, J, J, J, J, J, J, J, J, J, J, J, J, J, J, J, J, J, J, J, J, J, J, J, J, J, J, J, J, J, J, J, J, J, J, J, J, J, J, J, J, J, J, J, J, J, J, J, J, J, J, J, J, J, J, J, J, J, J, J, J, J, J, J, J, J, J, J, J, J, J, J], [.arr 0 7 [[.ro 4 (p0.s.structs.map structC), .ro 3 (p0.s.enums.map enumC), .ro 4 (p0.s.fns.map fnC), .s p0.b.name, .i .i64 p0.b.params, .ro 4 (p0.b.locals.map localC), .ro 17 (p0.b.blocks.map blockC)]], .arr 0 16 [[.i .i64 p1.k, .i .i64 p1.at_, .i .i64 p1.s.local_, .ro 1 (p1.s.path.map (fun z => [.i .i64 z])), .i .i64 p1.v.k, .ro 5 (p1.v.uses.map useC), .i .i64 p1.v.s.local_, .ro 1 (p1.v.s.path.map (fun z => [.i .i64 z])), .i .i64 p1.v.which, .i .i64 p1.v.tag, .b p1.u.num, .i .i64 p1.u.n, .b p1.u.move, .i .i64 p1.u.s.local_, .ro 1 (p1.u.s.path.map (fun z => [.i .i64 z])), .ro 1 (p1.to_.map (fun z => [.i .i64 z]))]]]⟩ : St)) ?_ ?_
  ·skip
   cases k3 : (mEmpty p1.s)
   ·skip
    have kk3 := k3
    try simp at kk3
    refine EV.regionG tabOK ?_ -- region 3
    simp (maxSteps := 2000000) -implicitDefEqProofs +contextual [k3, kk3]
    refine callG_fun (w_mEmpty p1.s) ?_ ?_
    ·first | (simp; done) | (simp [k3, kk3]; done)
    simp (maxSteps := 2000000) -implicitDefEqProofs +contextual [k3, kk3]
    refine ⟨(), ?_⟩
    try dsimp only
    refine Sub.cutF 2 (by simp) ?_ ?_ <;> simp [List.range_succ, toIdx_range, passed, k3, kk3]
   ·skip
    have kk3 := k3
    try simp at kk3
    refine EV.regionG tabOK ?_ -- region 3
    simp (maxSteps := 2000000) -implicitDefEqProofs +contextual [k3, kk3]
    refine callG_fun (w_mEmpty p1.s) ?_ ?_
    ·first | (simp; done) | (simp [k3, kk3]; done)
    simp (maxSteps := 2000000) -implicitDefEqProofs +contextual [k3, kk3]
    refine callG_fun (w_mNoValue p1.v) ?_ ?_
    ·first | (simp; done) | (simp [k3, kk3]; done)
    simp (maxSteps := 2000000) -implicitDefEqProofs +contextual [k3, kk3]
    refine ⟨(), ?_⟩
    try dsimp only
    refine Sub.cutF 2 (by simp) ?_ ?_ <;> simp [List.range_succ, toIdx_range, passed, k3, kk3]
  ·skip
   rintro _
   simp only [thenK_normal, blockK_normal, scopeK_normal, bodyK_normal]
   refine EV.seq ?_
   refine EV.seq ?_
   refine EV.regionG tabOK ?_ -- region 4
   simp (maxSteps := 2000000) -implicitDefEqProofs
   refine EV.seq ?_
   refine EV.regionG tabOK ?_ -- region 5
   simp (maxSteps := 2000000) -implicitDefEqProofs
   refine EV.block ?_
   refine EV.seq ?_
   refine EV.regionG tabOK ?_ -- region 6
   simp (maxSteps := 2000000) -implicitDefEqProofs
   refine EV.condT ?_
   simp -implicitDefEqProofs
   refine condT_intro (fun k4 => ?_) (fun k4 => ?_)
   ·try simp at k4
    obtain ⟨f4, e⟩ := pos_on2 e (by first | simpa using k4 | grind)
    try simp at f4
    refine EV.seq ?_
    refine EV.nrm (fun _ : Unit => (⟨[J, J, J, J, .b (((decide ((p1.to_.length : Int) = 1)) && ((mEmpty p1.s) && (mNoValue p1.v))) && (mNoUse p1.u)), J, J, J, J, J, J, J, J, J, J, J, J, J, J, J, J, J, J, J, J, J, J, J, J, J, J, J, J, J, J, J, J, J, J, J, J, J, J, J, J, J, J, J, J, J, J, J, J, J, J, J, J, J, J, J, J, J, J, J, J, J, J, J, J, J, J, J, J, J, J, J, J, J, J, J, J, J, J, J, J, J, J, J, J, J, J, J, J, J, J, J, J, J, J, J, J, J, J, J, J, J, J, J, J, J, J, J, J, J, J, J, J, J, J, J, J, J, J, J, J, J, J, J, J, J, J, J, J, J], []⟩ : St)) ?_ ?_
    ·skip
     by_cases k6 : (p1.to_.length : Int) = 1
     ·skip
      have kk6 := k6
      try simp at kk6
      cases k7 : (mEmpty p1.s)
      ·skip
       have kk7 := k7
       try simp at kk7
       refine EV.regionG tabOK ?_ -- region 7
       simp (maxSteps := 2000000) -implicitDefEqProofs +contextual [k6, kk6, k7, kk7]
       refine ⟨(), ?_⟩
       try dsimp only
       refine Sub.cutF 0 (by simp) ?_ ?_ <;> simp [List.range_succ, toIdx_range, passed, k6, kk6, k7, kk7]
      ·skip
       have kk7 := k7
       try simp at kk7
       cases k8 : (mNoValue p1.v)
       ·skip
        have kk8 := k8
        try simp at kk8
        refine EV.regionG tabOK ?_ -- region 7
        simp (maxSteps := 2000000) -implicitDefEqProofs +contextual [k6, kk6, k7, kk7, k8, kk8]
        refine ⟨(), ?_⟩
        try dsimp only
        refine Sub.cutF 0 (by simp) ?_ ?_ <;> simp [List.range_succ, toIdx_range, passed, k6, kk6, k7, kk7, k8, kk8]
       ·skip
        have kk8 := k8
        try simp at kk8
        refine EV.regionG tabOK ?_ -- region 7
        simp (maxSteps := 2000000) -implicitDefEqProofs +contextual [k6, kk6, k7, kk7, k8, kk8]
        refine callG_fun (w_mNoUse p1.u) ?_ ?_
        ·first | (simp; done) | (simp [k6, kk6, k7, kk7, k8, kk8]; done)
        simp (maxSteps := 2000000) -implicitDefEqProofs +contextual [k6, kk6, k7, kk7, k8, kk8]
        refine ⟨(), ?_⟩
        try dsimp only
        refine Sub.cutF 0 (by simp) ?_ ?_ <;> simp [List.range_succ, toIdx_range, passed, k6, kk6, k7, kk7, k8, kk8]
     ·skip
      have kk6 := k6
      try simp at kk6
      refine EV.regionG tabOK ?_ -- region 7
      simp (maxSteps := 2000000) -implicitDefEqProofs +contextual [k6, kk6]
      refine ⟨(), ?_⟩
      try dsimp only
      refine Sub.cutF 0 (by simp) ?_ ?_ <;> simp [List.range_succ, toIdx_range, passed, k6, kk6]
    ·skip
     rintro _
     simp only [thenK_normal, blockK_normal, scopeK_normal, bodyK_normal]
     refine EV.ret ?_
     simp only [thenK_ret, blockK_ret, scopeK_ret, bodyK_ret]
     subst e
     refine Fin.pure0 ?_
     first | (simp; done) | (simp <;> grind)
   ·try simp at k4
    obtain ⟨f4, e⟩ := neg_on2 e (by first | simpa using k4 | grind)
    try simp at f4
    refine EV.seq ?_
    refine EV.regionG tabOK ?_ -- region 8
    simp (maxSteps := 2000000) -implicitDefEqProofs
    refine EV.condT ?_
    simp -implicitDefEqProofs
    refine condT_intro (fun k9 => ?_) (fun k9 => ?_)
    ·try simp at k9
     obtain ⟨f9, e⟩ := pos_on2 e (by first | simpa using k9 | grind)
     try simp at f9
     refine EV.seq ?_
     refine EV.nrm (fun _ : Unit => (⟨[J, J, J, J, .b (((decide ((p1.to_.length : Int) = 2)) && ((mEmpty p1.s) && (mNoValue p1.v))) && (mNumber p0 p1.u)), J, J, J, J, J, J, J, J, J, J, J, J, J, J, J, J, J, J, J, J, J, J, J, J, J, J, J, J, J, J, J, J, J, J, J, J, J, J, J, J, J, J, J, J, J, J, J, J, J, J, J, J, J, J, J, J, J, J, J, J, J, J, J, J, J, J, J, J, J, J, J, J, J, J, J, J, J, J, J, J, J, J, J, J, J, J, J, J, J, J, J, J, J, J, J, J, J, J, J, J, J, J, J, J, J, J, J, J, J, J, J, J, J, J, J, J, J, J, J, J, J, J, J, J, J, J, J, J, J], []⟩ : St)) ?_ ?_
     ·skip
      by_cases k11 : (p1.to_.length : Int) = 2
      ·skip
       have kk11 := k11
       try simp at kk11
       cases k12 : (mEmpty p1.s)
       ·skip
        have kk12 := k12
        try simp at kk12
        refine EV.regionG tabOK ?_ -- region 9
        simp (maxSteps := 2000000) -implicitDefEqProofs +contextual [k11, kk11, k12, kk12]
        refine ⟨(), ?_⟩
        try dsimp only
        refine Sub.cutF 0 (by simp) ?_ ?_ <;> simp [List.range_succ, toIdx_range, passed, k11, kk11, k12, kk12]
       ·skip
        have kk12 := k12
        try simp at kk12
        cases k13 : (mNoValue p1.v)
        ·skip
         have kk13 := k13
         try simp at kk13
         refine EV.regionG tabOK ?_ -- region 9
         simp (maxSteps := 2000000) -implicitDefEqProofs +contextual [k11, kk11, k12, kk12, k13, kk13]
         refine ⟨(), ?_⟩
         try dsimp only
         refine Sub.cutF 0 (by simp) ?_ ?_ <;> simp [List.range_succ, toIdx_range, passed, k11, kk11, k12, kk12, k13, kk13]
        ·skip
         have kk13 := k13
         try simp at kk13
         refine EV.regionG tabOK ?_ -- region 9
         simp (maxSteps := 2000000) -implicitDefEqProofs +contextual [k11, kk11, k12, kk12, k13, kk13]
         refine callG_fun (w_mNumber p0 p1.u) ?_ ?_
         ·first | (simp; done) | (simp [k11, kk11, k12, kk12, k13, kk13]; done)
         simp (maxSteps := 2000000) -implicitDefEqProofs +contextual [k11, kk11, k12, kk12, k13, kk13]
         refine ⟨(), ?_⟩
         try dsimp only
         refine Sub.cutF 0 (by simp) ?_ ?_ <;> simp [List.range_succ, toIdx_range, passed, k11, kk11, k12, kk12, k13, kk13]
      ·skip
       have kk11 := k11
       try simp at kk11
       refine EV.regionG tabOK ?_ -- region 9
       simp (maxSteps := 2000000) -implicitDefEqProofs +contextual [k11, kk11]
       refine ⟨(), ?_⟩
       try dsimp only
       refine Sub.cutF 0 (by simp) ?_ ?_ <;> simp [List.range_succ, toIdx_range, passed, k11, kk11]
     ·skip
      rintro _
      simp only [thenK_normal, blockK_normal, scopeK_normal, bodyK_normal]
      refine EV.ret ?_
      simp only [thenK_ret, blockK_ret, scopeK_ret, bodyK_ret]
      subst e
      refine Fin.pure0 ?_
      first | (simp; done) | (simp <;> grind)
    ·try simp at k9
     obtain ⟨f9, e⟩ := neg_on2 e (by first | simpa using k9 | grind)
     try simp at f9
     refine EV.seq ?_
     refine EV.regionG tabOK ?_ -- region 10
     simp (maxSteps := 2000000) -implicitDefEqProofs
     refine EV.condT ?_
     simp -implicitDefEqProofs
     refine condT_intro (fun k14 => ?_) (fun k14 => ?_)
     ·try simp at k14
      obtain ⟨f14, e⟩ := pos_on2 e (by first | simpa using k14 | grind)
      try simp at f14
      refine EV.seq ?_
      refine EV.nrm (fun _ : Unit => (⟨[J, J, J, J, .b (((decide ((p1.to_.length : Int) = 0)) && ((mEmpty p1.s) && (mNoValue p1.v))) && (mNumber p0 p1.u)), J, J, J, J, J, J, J, J, J, J, J, J, J, J, J, J, J, J, J, J, J, J, J, J, J, J, J, J, J, J, J, J, J, J, J, J, J, J, J, J, J, J, J, J, J, J, J, J, J, J, J, J, J, J, J, J, J, J, J, J, J, J, J, J, J, J, J, J, J, J, J, J, J, J, J, J, J, J, J, J, J, J, J, J, J, J, J, J, J, J, J, J, J, J, J, J, J, J, J, J, J, J, J, J, J, J, J, J, J, J, J, J, J, J, J, J, J, J, J, J, J, J, J, J, J, J, J, J, J], []⟩ : St)) ?_ ?_
      ·skip
       by_cases k16 : (p1.to_.length : Int) = 0
       ·skip
        have kk16 := k16
        try simp at kk16
        cases k17 : (mEmpty p1.s)
        ·skip
         have kk17 := k17
         try simp at kk17
         refine EV.regionG tabOK ?_ -- region 11
         simp (maxSteps := 2000000) -implicitDefEqProofs +contextual [k16, kk16, k17, kk17]
         refine ⟨(), ?_⟩
         try dsimp only
         refine Sub.cutF 0 (by simp) ?_ ?_ <;> simp [List.range_succ, toIdx_range, passed, k16, kk16, k17, kk17]
        ·skip
         have kk17 := k17
         try simp at kk17
         cases k18 : (mNoValue p1.v)
         ·skip
          have kk18 := k18
          try simp at kk18
          refine EV.regionG tabOK ?_ -- region 11
          simp (maxSteps := 2000000) -implicitDefEqProofs +contextual [k16, kk16, k17, kk17, k18, kk18]
          refine ⟨(), ?_⟩
          try dsimp only
          refine Sub.cutF 0 (by simp) ?_ ?_ <;> simp [List.range_succ, toIdx_range, passed, k16, kk16, k17, kk17, k18, kk18]
         ·skip
          have kk18 := k18
          try simp at kk18
          refine EV.regionG tabOK ?_ -- region 11
          simp (maxSteps := 2000000) -implicitDefEqProofs +contextual [k16, kk16, k17, kk17, k18, kk18]
          refine callG_fun (w_mNumber p0 p1.u) ?_ ?_
          ·first | (simp; done) | (simp [k16, kk16, k17, kk17, k18, kk18]; done)
          simp (maxSteps := 2000000) -implicitDefEqProofs +contextual [k16, kk16, k17, kk17, k18, kk18]
          refine ⟨(), ?_⟩
          try dsimp only
          refine Sub.cutF 0 (by simp) ?_ ?_ <;> simp [List.range_succ, toIdx_range, passed, k16, kk16, k17, kk17, k18, kk18]
       ·skip
        have kk16 := k16
        try simp at kk16
        refine EV.regionG tabOK ?_ -- region 11
        simp (maxSteps := 2000000) -implicitDefEqProofs +contextual [k16, kk16]
        refine ⟨(), ?_⟩
        try dsimp only
        refine Sub.cutF 0 (by simp) ?_ ?_ <;> simp [List.range_succ, toIdx_range, passed, k16, kk16]
      ·skip
       rintro _
       simp only [thenK_normal, blockK_normal, scopeK_normal, bodyK_normal]
       refine EV.ret ?_
       simp only [thenK_ret, blockK_ret, scopeK_ret, bodyK_ret]
       subst e
       refine Fin.pure0 ?_
       first | (simp; done) | (simp <;> grind)
     ·try simp at k14
      obtain ⟨f14, e⟩ := neg_on2 e (by first | simpa using k14 | grind)
      try simp at f14
      refine EV.seq ?_
      refine EV.regionG tabOK ?_ -- region 12
      simp (maxSteps := 2000000) -implicitDefEqProofs
      refine EV.condT ?_
      simp -implicitDefEqProofs
      refine condT_intro (fun k19 => ?_) (fun k19 => ?_)
      ·try simp at k19
       obtain ⟨f19, e⟩ := pos_on2 e (by first | simpa using k19 | grind)
       try simp at f19
       refine EV.seq ?_
       refine EV.nrm (fun _ : Unit => (⟨[J, J, J, J, .b (((decide ((p1.to_.length : Int) = 1)) && ((mEmpty p1.s) && (mNoValue p1.v))) && (mNumber p0 p1.u)), J, J, J, J, J, J, J, J, J, J, J, J, J, J, J, J, J, J, J, J, J, J, J, J, J, J, J, J, J, J, J, J, J, J, J, J, J, J, J, J, J, J, J, J, J, J, J, J, J, J, J, J, J, J, J, J, J, J, J, J, J, J, J, J, J, J, J, J, J, J, J, J, J, J, J, J, J, J, J, J, J, J, J, J, J, J, J, J, J, J, J, J, J, J, J, J, J, J, J, J, J, J, J, J, J, J, J, J, J, J, J, J, J, J, J, J, J, J, J, J, J, J, J, J, J, J, J, J, J], []⟩ : St)) ?_ ?_
       ·skip
        by_cases k21 : (p1.to_.length : Int) = 1
        ·skip
         have kk21 := k21
         try simp at kk21
         cases k22 : (mEmpty p1.s)
         ·skip
          have kk22 := k22
          try simp at kk22
          refine EV.regionG tabOK ?_ -- region 13
          simp (maxSteps := 2000000) -implicitDefEqProofs +contextual [k21, kk21, k22, kk22]
          refine ⟨(), ?_⟩
          try dsimp only
          refine Sub.cutF 0 (by simp) ?_ ?_ <;> simp [List.range_succ, toIdx_range, passed, k21, kk21, k22, kk22]
         ·skip
          have kk22 := k22
          try simp at kk22
          cases k23 : (mNoValue p1.v)
          ·skip
           have kk23 := k23
           try simp at kk23
           refine EV.regionG tabOK ?_ -- region 13
           simp (maxSteps := 2000000) -implicitDefEqProofs +contextual [k21, kk21, k22, kk22, k23, kk23]
           refine ⟨(), ?_⟩
           try dsimp only
           refine Sub.cutF 0 (by simp) ?_ ?_ <;> simp [List.range_succ, toIdx_range, passed, k21, kk21, k22, kk22, k23, kk23]
          ·skip
           have kk23 := k23
           try simp at kk23
           refine EV.regionG tabOK ?_ -- region 13
           simp (maxSteps := 2000000) -implicitDefEqProofs +contextual [k21, kk21, k22, kk22, k23, kk23]
           refine callG_fun (w_mNumber p0 p1.u) ?_ ?_
           ·first | (simp; done) | (simp [k21, kk21, k22, kk22, k23, kk23]; done)
           simp (maxSteps := 2000000) -implicitDefEqProofs +contextual [k21, kk21, k22, kk22, k23, kk23]
           refine ⟨(), ?_⟩
           try dsimp only
           refine Sub.cutF 0 (by simp) ?_ ?_ <;> simp [List.range_succ, toIdx_range, passed, k21, kk21, k22, kk22, k23, kk23]
        ·skip
         have kk21 := k21
         try simp at kk21
         refine EV.regionG tabOK ?_ -- region 13
         simp (maxSteps := 2000000) -implicitDefEqProofs +contextual [k21, kk21]
         refine ⟨(), ?_⟩
         try dsimp only
         refine Sub.cutF 0 (by simp) ?_ ?_ <;> simp [List.range_succ, toIdx_range, passed, k21, kk21]
       ·skip
        rintro _
        simp only [thenK_normal, blockK_normal, scopeK_normal, bodyK_normal]
        refine EV.ret ?_
        simp only [thenK_ret, blockK_ret, scopeK_ret, bodyK_ret]
        subst e
        refine Fin.pure0 ?_
        first | (simp; done) | (simp <;> grind)
      ·try simp at k19
       obtain ⟨f19, e⟩ := neg_on2 e (by first | simpa using k19 | grind)
       try simp at f19
       refine EV.seq ?_
       refine EV.regionG tabOK ?_ -- region 14
       simp (maxSteps := 2000000) -implicitDefEqProofs
       refine EV.condT ?_
       simp -implicitDefEqProofs
       refine condT_intro (fun k24 => ?_) (fun k24 => ?_)
       ·try simp at k24
        obtain ⟨f24, e⟩ := pos_on2 e (by first | simpa using k24 | grind)
        try simp at f24
        refine EV.seq ?_
        refine EV.nrm (fun _ : Unit => (⟨[J, J, J, J, .b ((((decide ((p1.to_.length : Int) = 1)) && (mNoValue p1.v)) && (mNumber p0 p1.u)) && (mSettable p0 p1.s)), J, J, J, J, J, J, J, J, J, J, J, J, J, J, J, J, J, J, J, J, J, J, J, J, J, J, J, J, J, J, J, J, J, J, J, J, J, J, J, J, J, J, J, J, J, J, J, J, J, J, J, J, J, J, J, J, J, J, J, J, J, J, J, J, J, J, J, J, J, J, J, J, J, J, J, J, J, J, J, J, J, J, J, J, J, J, J, J, J, J, J, J, J, J, J, J, J, J, J, J, J, J, J, J, J, J, J, J, J, J, J, J, J, J, J, J, J, J, J, J, J, J, J, J, J, J, J, J, J], []⟩ : St)) ?_ ?_
        ·skip
         by_cases k26 : (p1.to_.length : Int) = 1
         ·skip
          have kk26 := k26
          try simp at kk26
          cases k27 : (mNoValue p1.v)
          ·skip
           have kk27 := k27
           try simp at kk27
           refine EV.regionG tabOK ?_ -- region 15
           simp (maxSteps := 2000000) -implicitDefEqProofs +contextual [k26, kk26, k27, kk27]
           refine callG_fun (w_mNoValue p1.v) ?_ ?_
           ·first | (simp; done) | (simp [k26, kk26, k27, kk27]; done)
           simp (maxSteps := 2000000) -implicitDefEqProofs +contextual [k26, kk26, k27, kk27]
           refine ⟨(), ?_⟩
           try dsimp only
           refine Sub.cutF 0 (by simp) ?_ ?_ <;> simp [List.range_succ, toIdx_range, passed, k26, kk26, k27, kk27]
          ·skip
           have kk27 := k27
           try simp at kk27
           cases k28 : (mNumber p0 p1.u)
           ·skip
            have kk28 := k28
            try simp at kk28
            refine EV.regionG tabOK ?_ -- region 15
            simp (maxSteps := 2000000) -implicitDefEqProofs +contextual [k26, kk26, k27, kk27, k28, kk28]
            refine callG_fun (w_mNoValue p1.v) ?_ ?_
            ·first | (simp; done) | (simp [k26, kk26, k27, kk27, k28, kk28]; done)
            simp (maxSteps := 2000000) -implicitDefEqProofs +contextual [k26, kk26, k27, kk27, k28, kk28]
            refine callG_fun (w_mNumber p0 p1.u) ?_ ?_
            ·first | (simp; done) | (simp [k26, kk26, k27, kk27, k28, kk28]; done)
            simp (maxSteps := 2000000) -implicitDefEqProofs +contextual [k26, kk26, k27, kk27, k28, kk28]
            refine ⟨(), ?_⟩
            try dsimp only
            refine Sub.cutF 0 (by simp) ?_ ?_ <;> simp [List.range_succ, toIdx_range, passed, k26, kk26, k27, kk27, k28, kk28]
           ·skip
            have kk28 := k28
            try simp at kk28
            refine EV.regionG tabOK ?_ -- region 15
            simp (maxSteps := 2000000) -implicitDefEqProofs +contextual [k26, kk26, k27, kk27, k28, kk28]
            refine callG_fun (w_mNoValue p1.v) ?_ ?_
            ·first | (simp; done) | (simp [k26, kk26, k27, kk27, k28, kk28]; done)
            simp (maxSteps := 2000000) -implicitDefEqProofs +contextual [k26, kk26, k27, kk27, k28, kk28]
            refine callG_fun (w_mNumber p0 p1.u) ?_ ?_
            ·first | (simp; done) | (simp [k26, kk26, k27, kk27, k28, kk28]; done)
            simp (maxSteps := 2000000) -implicitDefEqProofs +contextual [k26, kk26, k27, kk27, k28, kk28]
            refine callG_fun (w_mSettable p0 p1.s) ?_ ?_
            ·first | (simp; done) | (simp [k26, kk26, k27, kk27, k28, kk28]; done)
            simp (maxSteps := 2000000) -implicitDefEqProofs +contextual [k26, kk26, k27, kk27, k28, kk28]
            refine ⟨(), ?_⟩
            try dsimp only
            refine Sub.cutF 0 (by simp) ?_ ?_ <;> simp [List.range_succ, toIdx_range, passed, k26, kk26, k27, kk27, k28, kk28]
         ·skip
          have kk26 := k26
          try simp at kk26
          refine EV.regionG tabOK ?_ -- region 15
          simp (maxSteps := 2000000) -implicitDefEqProofs +contextual [k26, kk26]
          refine ⟨(), ?_⟩
          try dsimp only
          refine Sub.cutF 0 (by simp) ?_ ?_ <;> simp [List.range_succ, toIdx_range, passed, k26, kk26]
        ·skip
         rintro _
         simp only [thenK_normal, blockK_normal, scopeK_normal, bodyK_normal]
         refine EV.ret ?_
         simp only [thenK_ret, blockK_ret, scopeK_ret, bodyK_ret]
         subst e
         refine Fin.pure0 ?_
         first | (simp; done) | (simp <;> grind)
       ·try simp at k24
        obtain ⟨f24, e⟩ := neg_on2 e (by first | simpa using k24 | grind)
        try simp at f24
        refine EV.seq ?_
        refine EV.seq ?_
        refine EV.regionG tabOK ?_ -- region 16
        simp (maxSteps := 2000000) -implicitDefEqProofs
        obtain ⟨z17, e17, e⟩ := bnd_split e
        refine EV.nrm (fun v : { v : (Bool) × (Unit) // z17 = v.1 } => (fun (v17 : Bool) (g17 : Unit) => (⟨[J, J, .ptr 0 0 0 0, .ptr 1 0 0 0, J, J, .i .i64 (p1.to_.length : Int), J, J, J, J, J, J, J, J, J, J, J, J, J, J, J, J, J, J, .i .i64 p1.k, J, J, J, J, J, J, J, J, J, J, J, J, J, J, J, J, J, J, J, J, J, J, J, J, J, J, J, J, J, J, J, J, J, J, J, J, J, J, J, J, J, J, J, J, J, J, J, J, J, J, J, J, J, J, J, J, J, J, J, J, J, J, J, J, J, J, J, J, J, J, J, J, .b v17, J, J, J, J, J, J, J, J, J, J, J, J, J, J, J, J, J, J, J, J, J, J, J, J, J, J, J, J, J, J, J, J, J, J, J], [.arr 0 7 [[.ro 4 (p0.s.structs.map structC), .ro 3 (p0.s.enums.map enumC), .ro 4 (p0.s.fns.map fnC), .s p0.b.name, .i .i64 p0.b.params, .ro 4 (p0.b.locals.map localC), .ro 17 (p0.b.blocks.map blockC)]], .arr 0 16 [[.i .i64 p1.k, .i .i64 p1.at_, .i .i64 p1.s.local_, .ro 1 (p1.s.path.map (fun z => [.i .i64 z])), .i .i64 p1.v.k, .ro 5 (p1.v.uses.map useC), .i .i64 p1.v.s.local_, .ro 1 (p1.v.s.path.map (fun z => [.i .i64 z])), .i .i64 p1.v.which, .i .i64 p1.v.tag, .b p1.u.num, .i .i64 p1.u.n, .b p1.u.move, .i .i64 p1.u.s.local_, .ro 1 (p1.u.s.path.map (fun z => [.i .i64 z])), .ro 1 (p1.to_.map (fun z => [.i .i64 z]))]]]⟩ : St)) v.1.1 v.1.2) ?_ ?_
        ·skip
         refine EV.condT ?_
         simp -implicitDefEqProofs
         refine condT_intro (fun k29 => ?_) (fun k29 => ?_)
         ·try simp at k29
          obtain ⟨f29, e17⟩ := pos_on2 e17 (by first | simpa using k29 | grind)
          try simp at f29
          refine EV.skip ?_
          simp only [thenK_normal, blockK_normal, scopeK_normal]
          refine ⟨⟨(true, ()), e17.symm⟩, ?_⟩
          try dsimp only
          refine Sub.cutF 2 (by simp) ?_ ?_ <;> simp [List.range_succ, toIdx_range, passed]
         ·try simp at k29
          obtain ⟨f29, e17⟩ := neg_on2 e17 (by first | simpa using k29 | grind)
          try simp at f29
          refine EV.regionG tabOK ?_ -- region 17
          simp (maxSteps := 2000000) -implicitDefEqProofs
          refine ⟨⟨((decide (p1.k = 6)), ()), e17.symm⟩, ?_⟩
          try dsimp only
          refine Sub.cutF 2 (by simp) ?_ ?_ <;> simp [List.range_succ, toIdx_range, passed]
        ·skip
         rintro ⟨⟨v17, g17⟩, e17⟩
         simp only [thenK_normal, blockK_normal, scopeK_normal, bodyK_normal]
         replace e := bnd_on e e17
         try dsimp only at e
         refine EV.condT ?_
         simp -implicitDefEqProofs
         refine condT_intro (fun k30 => ?_) (fun k30 => ?_)
         ·try simp at k30
          obtain ⟨f30, e⟩ := pos_on2 e (by first | simpa using k30 | grind)
          try simp at f30
          refine EV.seq ?_
          refine EV.nrm (fun _ : Unit => (⟨[J, J, J, J, .b ((decide ((p1.to_.length : Int) = 1)) && (mAsks p0 p1)), J, J, J, J, J, J, J, J, J, J, J, J, J, J, J, J, J, J, J, J, J, J, J, J, J, J, J, J, J, J, J, J, J, J, J, J, J, J, J, J, J, J, J, J, J, J, J, J, J, J, J, J, J, J, J, J, J, J, J, J, J, J, J, J, J, J, J, J, J, J, J, J, J, J, J, J, J, J, J, J, J, J, J, J, J, J, J, J, J, J, J, J, J, J, J, J, J, J, J, J, J, J, J, J, J, J, J, J, J, J, J, J, J, J, J, J, J, J, J, J, J, J, J, J, J, J, J, J, J], []⟩ : St)) ?_ ?_
          ·skip
           by_cases k32 : (p1.to_.length : Int) = 1
           ·skip
            have kk32 := k32
            try simp at kk32
            refine EV.regionG tabOK ?_ -- region 18
            simp (maxSteps := 2000000) -implicitDefEqProofs +contextual [k32, kk32]
            refine callG_fun (w_mAsks p0 p1) ?_ ?_
            ·first | (simp; done) | (simp [k32, kk32]; done)
            simp (maxSteps := 2000000) -implicitDefEqProofs +contextual [k32, kk32]
            refine ⟨(), ?_⟩
            try dsimp only
            refine Sub.cutF 0 (by simp) ?_ ?_ <;> simp [List.range_succ, toIdx_range, passed, k32, kk32]
           ·skip
            have kk32 := k32
            try simp at kk32
            refine EV.regionG tabOK ?_ -- region 18
            simp (maxSteps := 2000000) -implicitDefEqProofs +contextual [k32, kk32]
            refine ⟨(), ?_⟩
            try dsimp only
            refine Sub.cutF 0 (by simp) ?_ ?_ <;> simp [List.range_succ, toIdx_range, passed, k32, kk32]
          ·skip
           rintro _
           simp only [thenK_normal, blockK_normal, scopeK_normal, bodyK_normal]
           refine EV.ret ?_
           simp only [thenK_ret, blockK_ret, scopeK_ret, bodyK_ret]
           subst e
           refine Fin.pure0 ?_
           first | (simp; done) | (simp <;> grind)
         ·try simp at k30
          obtain ⟨f30, e⟩ := neg_on2 e (by first | simpa using k30 | grind)
          try simp at f30
          refine EV.seq ?_
          refine EV.regionG tabOK ?_ -- region 19
          simp (maxSteps := 2000000) -implicitDefEqProofs
          refine EV.condT ?_
          simp -implicitDefEqProofs
          refine condT_intro (fun k33 => ?_) (fun k33 => ?_)
          ·try simp at k33
           obtain ⟨f33, e⟩ := pos_on2 e (by first | simpa using k33 | grind)
           try simp at f33
           refine EV.seq ?_
           refine EV.regionG tabOK ?_ -- region 20
           simp (maxSteps := 2000000) -implicitDefEqProofs
           refine callG_fun (w_mVariants p0 p1.s) ?_ ?_
           ·simp
           simp (maxSteps := 2000000) -implicitDefEqProofs
           refine EV.seq ?_
           refine EV.nrm (fun _ : Unit => (⟨[J, J, J, J, .b ((((mVariants p0 p1.s).2 && (decide ((p1.to_.length : Int) = (((mVariants p0 p1.s).1).length : Int)))) && (mNoValue p1.v)) && (mNoUse p1.u)), J, J, J, J, J, J, J, J, J, J, J, J, J, J, J, J, J, J, J, J, J, J, J, J, J, J, J, J, J, J, J, J, J, J, J, J, J, J, J, J, J, J, J, J, J, J, J, J, J, J, J, J, J, J, J, J, J, J, J, J, J, J, J, J, J, J, J, J, J, J, J, J, J, J, J, J, J, J, J, J, J, J, J, J, J, J, J, J, J, J, J, J, J, J, J, J, J, J, J, J, J, J, J, J, J, J, J, J, J, J, J, J, J, J, J, J, J, J, J, J, J, J, J, J, J, J, J, J, J], []⟩ : St)) ?_ ?_
           ·skip
            cases k35 : (mVariants p0 p1.s).2
            ·skip
             have kk35 := k35
             try simp at kk35
             refine EV.regionG tabOK ?_ -- region 21
             simp (maxSteps := 2000000) -implicitDefEqProofs +contextual [k35, kk35]
             refine ⟨(), ?_⟩
             try dsimp only
             refine Sub.cutF 0 (by simp) ?_ ?_ <;> simp [List.range_succ, toIdx_range, passed, k35, kk35]
            ·skip
             have kk35 := k35
             try simp at kk35
             by_cases k36 : (p1.to_.length : Int) = (((mVariants p0 p1.s).1).length : Int)
             ·skip
              have kk36 := k36
              try simp at kk36
              cases k37 : (mNoValue p1.v)
              ·skip
               have kk37 := k37
               try simp at kk37
               refine EV.regionG tabOK ?_ -- region 21
               simp (maxSteps := 2000000) -implicitDefEqProofs +contextual [k35, kk35, k36, kk36, k37, kk37]
               refine callG_fun (w_mNoValue p1.v) ?_ ?_
               ·first | (simp; done) | (simp [k35, kk35, k36, kk36, k37, kk37]; done)
               simp (maxSteps := 2000000) -implicitDefEqProofs +contextual [k35, kk35, k36, kk36, k37, kk37]
               refine ⟨(), ?_⟩
               try dsimp only
               refine Sub.cutF 0 (by simp) ?_ ?_ <;> simp [List.range_succ, toIdx_range, passed, k35, kk35, k36, kk36, k37, kk37]
              ·skip
               have kk37 := k37
               try simp at kk37
               refine EV.regionG tabOK ?_ -- region 21
               simp (maxSteps := 2000000) -implicitDefEqProofs +contextual [k35, kk35, k36, kk36, k37, kk37]
               refine callG_fun (w_mNoValue p1.v) ?_ ?_
               ·first | (simp; done) | (simp [k35, kk35, k36, kk36, k37, kk37]; done)
               simp (maxSteps := 2000000) -implicitDefEqProofs +contextual [k35, kk35, k36, kk36, k37, kk37]
               refine callG_fun (w_mNoUse p1.u) ?_ ?_
               ·first | (simp; done) | (simp [k35, kk35, k36, kk36, k37, kk37]; done)
               simp (maxSteps := 2000000) -implicitDefEqProofs +contextual [k35, kk35, k36, kk36, k37, kk37]
               refine ⟨(), ?_⟩
               try dsimp only
               refine Sub.cutF 0 (by simp) ?_ ?_ <;> simp [List.range_succ, toIdx_range, passed, k35, kk35, k36, kk36, k37, kk37]
             ·skip
              have kk36 := k36
              try simp at kk36
              refine EV.regionG tabOK ?_ -- region 21
              simp (maxSteps := 2000000) -implicitDefEqProofs +contextual [k35, kk35, k36, kk36]
              refine ⟨(), ?_⟩
              try dsimp only
              refine Sub.cutF 0 (by simp) ?_ ?_ <;> simp [List.range_succ, toIdx_range, passed, k35, kk35, k36, kk36]
           ·skip
            rintro _
            simp only [thenK_normal, blockK_normal, scopeK_normal, bodyK_normal]
            refine EV.ret ?_
            simp only [thenK_ret, blockK_ret, scopeK_ret, bodyK_ret]
            subst e
            refine Fin.pure0 ?_
            first | (simp; done) | (simp <;> grind)
          ·try simp at k33
           obtain ⟨f33, e⟩ := neg_on2 e (by first | simpa using k33 | grind)
           try simp at f33
           refine EV.skip ?_
           simp only [thenK_normal, blockK_normal, scopeK_normal]
           refine EV.seq ?_
           refine EV.regionG tabOK ?_ -- region 22
           simp (maxSteps := 2000000) -implicitDefEqProofs
           refine EV.ret ?_
           simp only [thenK_ret, blockK_ret, scopeK_ret, bodyK_ret]
           subst e
           refine Fin.pure0 ?_
           first | (simp; done) | (simp <;> grind)
end
end Go.Proofs.Tryd
end
