/- Contracts of the program's functions over values. -/
import Derived.Test.YtakfpmogpnoibaaDoorKndA
set_option linter.unusedVariables false
set_option linter.unusedSimpArgs false
set_option linter.constructorNameAsVariable false
section
namespace Go.Proofs.Tryd
open Go Go.AM
attribute [local simp] wpG_op wpG_nil contG_some wpG_guard guardG_v guardG_o guardG_tup gval pureOp stepG_if isPick pickG_pick pickB_b pickOK isCall step_move step_assign step_alloc step_box boxV_some step_load step_store step_binOp step_unOp step_fieldAddr faV step_indexAddr ixA_slc ixA_arr step_extract extV_tup step_nilCheck ncV_ptr ncV_rp ncV_fn ncV_mp step_build buildV step_buildSlice bsV step_index ixV_arr ixV_str step_append apB step_makeSlice msV_i step_makeFunc over step_len step_makeMap mmV step_mapUpdate step_insert muA_map muB_mp step_lookup lkA_map lkB_mp step_slice slcV_s slcV_sl slcV_ro cutB_some slObV_arr bound_none bound_some bndV_i lenB_str lenB_ro lenB_sl lenB_nil lenB_z ld_ptr ld_rp offV_ptr offV_rp idxV_ro idxV_sl unV_not unV_neg binV_int binV_str binV_eqlb binV_neqb intOp strOp St.put updL setOb St.ev toV St.lk cellsOf AM.valOf TK.agg stv fillV places TI.zero condT_true condT_false finS resL resSlot packV ren ren1 ren0 Value.cells builtinV appendV elemsOf keepT room_of wrap_in toIdx passed Function.comp_def take_len_map lenV touchOf hid tab1 tab2 tab3 tab4 tab5 tab6 tab7 tab8 tab9 tab10 tab11 tab12 tab13 tab14 tab15 tab16 tab17 tab18 tab19 tab20 tab21 tab22 tab23 tab24 tab25 tab26 tab27 tab28 tab29 tab30 tab31 tab32 tab33 tab34 tab35 tab36 tab37 tab38 tab39 tab40 tab41 tab42 tab43 tab44 tab45 tab46 tab47 tab48 tab49 tab50 tab51 tab52 tab53 tab54 tab55 tab57 tab58 tab59 tab61 tab62 tab63 tab64 tab65 tab66 tab67 tab68 tab69 tab70 tab71 tab72 tab73 tab74 tab75 tab76 tab77 tab78 tab79 tab80 tab81 tab82 tab83 tab84 tab85 tab86 tab87 tab88 tab89 tab90 tab91 tab92 tab93 tab94 tab95 tab96 tab97 tab98 tab99 tab100 tab101 tab103 tab104 tab105 tab106 tab107 tab108 tab109 tab110 tab111 tab112 tab113 tab114 tab115 tab116 tab117 tab118 tab119 tab120 tab121 tab122 tab123 tab124 tab125 tab126 tab127 tab128 tab129 tab130 tab131 tab132 tab133 tab135 tab137 tab138 tab140 tab141 tab142 tab143 tab144 tab145 tab146 tab147 tab148 tab149 tab150 tab151 tab152 tab153 tab155 tab156 tab157 tab158 tab159 tab160 tab161 tab162 tab163 tab164 tab165 tab166 tab167 tab168 tab170 tab171 tab172 tab173 tab174 tab175 tab176 tab177 tab178 tab179 tab180 tab181 tab182 tab186 tab187 tab188 tab189 tab190 tab191 tab192 tab193 tab194 tab195 armC_eq blockC_eq bodyC_eq enumC_eq fieldC_eq fnC_eq inC_eq localC_eq mirBodyC_eq operC_eq placeC_eq rvC_eq sourceC_eq spotC_eq stepC_eq stmtC_eq structC_eq tmC_eq tyC_eq useC_eq valueC_eq variantC_eq cutL_nil cutL_junk cutL_cons ren_arr ren_gone ren_unborn ren_var ren_row step_convert cvV_i cvV_sl cvV_s cvK_slc cvE_u8 bytesOf bor1 bor2 bor3 bor4
set_option linter.unusedSimpArgs false
set_option linter.unusedVariables false
set_option maxRecDepth 10000
set_option maxHeartbeats 4000000
noncomputable section
def mUses_l4 (p0 : MirBodyD) (p2 : List TyD) : List UseD → Nat → Ctl (Int) (Unit)
 | [], _ => .go ()
 | x4 :: xs4, j4 => (if ¬ ((mUse p0 x4).2 = 0) then .ret ((mUse p0 x4).2) else (bnd (p2.getD j4 default) fun (y9_4 : TyD) => (if (¬ ((kResolve p0.s y9_4).2 = 0)) ∨ (¬ ((mSame ((mUse p0 x4).1) ((kResolve p0.s y9_4).1)) = true)) then .ret 80 else mUses_l4 p0 p2 xs4 (j4 + 1))))
def mUses (p0 : MirBodyD) (p1 : List UseD) (p2 : List TyD) : Int :=
 (if ¬ ((p1.length : Int) = (p2.length : Int)) then 81 else (Ctl.run (mUses_l4 p0 p2 p1 0) fun (v4 : Unit) => 0))
set_option maxHeartbeats 40000000 in
theorem w_mUses (p0 : MirBodyD) (p1 : List UseD) (p2 : List TyD)  : QC prog 64 [.agg [.ro 4 (p0.s.structs.map structC), .ro 3 (p0.s.enums.map enumC), .ro 4 (p0.s.fns.map fnC), .s p0.b.name, .i .i64 p0.b.params, .ro 4 (p0.b.locals.map localC), .ro 17 (p0.b.blocks.map blockC)], .ro 5 (p1.map useC), .ro 3 (p2.map tyC)] [] (.i .i64 (mUses p0 p1 p2)) [] := by
 refine QC.of_body tabOK func64 rfl (by kernel_rfl) ?_
 simp only [f64]
 generalize e : mUses p0 p1 p2 = R
 unfold mUses at e
 refine EV.seq ?_
 refine EV.regionG tabOK ?_ -- region 0
 simp (maxSteps := 2000000) -implicitDefEqProofs
 refine EV.seq ?_
 refine EV.seq ?_
 refine EV.regionG tabOK ?_ -- region 1
 simp (maxSteps := 2000000) -implicitDefEqProofs
 refine EV.condT ?_
 simp -implicitDefEqProofs
 refine condT_intro (fun k1 => ?_) (fun k1 => ?_)
 ·try simp at k1
  obtain ⟨f1, e⟩ := pos_on2 e (by first | simpa using k1 | grind)
  try simp at f1
  refine EV.seq ?_
  refine EV.regionG tabOK ?_ -- region 2
  simp (maxSteps := 2000000) -implicitDefEqProofs
  refine EV.ret ?_
  simp only [thenK_ret, blockK_ret, scopeK_ret, bodyK_ret]
  subst e
  refine Fin.pure0 ?_
  first | (simp; done) | (simp <;> grind)
 ·try simp at k1
  obtain ⟨f1, e⟩ := neg_on2 e (by first | simpa using k1 | grind)
  try simp at f1
  refine EV.skip ?_
  simp only [thenK_normal, blockK_normal, scopeK_normal]
  refine EV.seq ?_
  refine EV.seq ?_
  refine EV.regionG tabOK ?_ -- region 3
  simp (maxSteps := 2000000) -implicitDefEqProofs
  obtain ⟨z4, e4, e⟩ := run_split e
  refine EV.nrm (fun v : { v : (Unit) × (Unit) // z4 = .go v.1 } => (fun (v4 : Unit) (g4 : Unit) => (⟨[J, J, J, J, J, J, J, J, J, J, J, J, J, J, J, J, J, J, J, J, J, J, J, J, J, J, J, J, J, J, J, J, J, J, J, J, J, J, J, J, J, J, J, J, J, J, J, J, J, J, J, J, J], []⟩ : St)) v.1.1 v.1.2) ?_ ?_
  ·skip
   refine EV.block ?_
   refine EV.loopB (fun x : { x : Nat // x ≤ p1.length ∧ mUses_l4 p0 p2 (p1.drop x) x = z4 } => (fun (j4 : Nat) => (⟨[J, J, .ro 3 (p2.map tyC), .ptr 0 0 0 0, J, J, J, J, J, J, J, J, J, J, J, J, J, J, .ro 5 (p1.map useC), .i .i64 (p1.length : Int), .i .i64 (j4 : Int), J, J, J, J, J, J, J, J, J, J, J, J, J, J, J, J, J, J, J, J, J, J, J, J, J, J, J, J, J, J, J, J], [.arr 0 7 [[.ro 4 (p0.s.structs.map structC), .ro 3 (p0.s.enums.map enumC), .ro 4 (p0.s.fns.map fnC), .s p0.b.name, .i .i64 p0.b.params, .ro 4 (p0.b.locals.map localC), .ro 17 (p0.b.blocks.map blockC)]]]⟩ : St)) x.1) (fun x => p1.length - x.1) ⟨0, Nat.zero_le _, e4⟩ ?_ ?_
   ·skip
    try dsimp only
    try dsimp only
    refine Sub.cutF 1 (by simp) ?_ ?_ <;> simp [List.range_succ, toIdx_range, passed]
   ·skip
    rintro ⟨j4, hi4, e4⟩
    simp only at hi4 e4 ⊢
    refine EV.seq ?_
    refine EV.regionG tabOK ?_ -- region 4
    simp (maxSteps := 2000000) -implicitDefEqProofs
    refine EV.seq ?_
    refine EV.room 18 (by rfl) (fun mj4 => ?_)
    simp at mj4
    refine EV.condT ?_
    simp -implicitDefEqProofs
    refine condT_intro (fun k2 => ?_) (fun k2 => ?_)
    ·try simp at k2
     have u2 : j4 < p1.length := by omega
     obtain ⟨x4, hx4⟩ : ∃ z, p1[j4] = z := ⟨_, rfl⟩
     have mx4 : x4 ∈ p1 := by rw [← hx4]; exact List.getElem_mem _
     rw [List.drop_eq_getElem_cons u2, hx4, mUses_l4] at e4
     refine EV.skip ?_
     simp only [thenK_normal, blockK_normal, scopeK_normal]
     refine EV.seq ?_
     refine EV.block ?_
     refine EV.seq ?_
     refine EV.regionG tabOK ?_ -- region 5
     simp (maxSteps := 2000000) -implicitDefEqProofs [k2, u2, hx4]
     refine EV.seq ?_
     refine EV.regionG tabOK ?_ -- region 6
     simp (maxSteps := 2000000) -implicitDefEqProofs [k2, u2, hx4]
     refine callG_fun (w_mUse p0 x4) ?_ ?_
     ·first | (simp; done) | (simp [k2, u2, hx4]; done)
     simp (maxSteps := 2000000) -implicitDefEqProofs [k2, u2, hx4]
     refine EV.seq ?_
     refine EV.seq ?_
     refine EV.regionG tabOK ?_ -- region 7
     simp (maxSteps := 2000000) -implicitDefEqProofs [k2, u2, hx4]
     refine EV.condT ?_
     simp -implicitDefEqProofs [k2, u2, hx4]
     refine condT_intro (fun k3 => ?_) (fun k3 => ?_)
     ·try simp at k3
      obtain ⟨f3, e4⟩ := pos_on2 e4 (by first | simpa using k3 | grind)
      try simp at f3
      refine EV.seq ?_
      refine EV.regionG tabOK ?_ -- region 8
      simp (maxSteps := 2000000) -implicitDefEqProofs [k2, u2, hx4]
      refine EV.ret ?_
      simp only [thenK_ret, blockK_ret, scopeK_ret, bodyK_ret]
      replace e := run_back e e4
      subst e
      refine Fin.pure0 ?_
      first | (simp; done) | (simp <;> grind)
     ·try simp at k3
      obtain ⟨f3, e4⟩ := neg_on2 e4 (by first | simpa using k3 | grind)
      try simp at f3
      refine EV.skip ?_
      simp only [thenK_normal, blockK_normal, scopeK_normal]
      refine EV.seq ?_
      obtain ⟨y9_4, gy9_4⟩ : ∃ z, (p2.getD j4 default) = z := ⟨_, rfl⟩
      replace e4 := bnd_on e4 gy9_4
      try dsimp only at e4
      have b4 : 0 ≤ (j4 : Int) ∧ (j4 : Int) < (p2.length : Int) := by omega
      have c4 : j4 < p2.length := by omega
      have hy9_4 : p2[j4] = y9_4 := by rw [← gy9_4, List.getD_eq_getElem?_getD, List.getElem?_eq_getElem c4]; rfl
      have my9_4 : y9_4 ∈ p2 := by rw [← hy9_4]; exact List.getElem_mem _
      refine EV.drawG tabOK mixedOK ?_ -- region 9
      simp (maxSteps := 2000000) -implicitDefEqProofs [k2, u2, hx4, b4, c4, hy9_4]
      refine callG_fun (w_kResolve p0.s y9_4) ?_ ?_
      ·first | (simp; done) | (simp [k2, u2, hx4, b4, c4, hy9_4]; done)
      simp (maxSteps := 2000000) -implicitDefEqProofs [k2, u2, hx4, b4, c4, hy9_4]
      refine And.intro ?_ ?_
      ·first | decide +kernel | (simp -implicitDefEqProofs; decide +kernel) | (split <;> decide +kernel)
      try simp -implicitDefEqProofs
      refine EV.seq ?_
      by_cases k5 : (kResolve p0.s y9_4).2 = 0
      ·skip
       have kk5 := k5
       try simp at kk5
       refine EV.regionG tabOK ?_ -- region 10
       simp (maxSteps := 2000000) -implicitDefEqProofs +contextual [k2, u2, hx4, b4, c4, hy9_4, k5, kk5]
       refine callG_fun (w_mSame ((mUse p0 x4).1) ((kResolve p0.s y9_4).1)) ?_ ?_
       ·first | (simp; done) | (simp [k2, u2, hx4, b4, c4, hy9_4, k5, kk5]; done)
       simp (maxSteps := 2000000) -implicitDefEqProofs +contextual [k2, u2, hx4, b4, c4, hy9_4, k5, kk5]
       refine EV.condT ?_
       simp -implicitDefEqProofs [k2, u2, hx4, b4, c4, hy9_4, k5, kk5]
       refine condT_intro (fun k6 => ?_) (fun k6 => ?_)
       ·try simp at k6
        obtain ⟨f6, e4⟩ := pos_on2 e4 (by first | simpa [k5, kk5] using k6 | grind)
        try simp at f6
        refine EV.seq ?_
        refine EV.regionG tabOK ?_ -- region 11
        simp (maxSteps := 2000000) -implicitDefEqProofs [k2, u2, hx4, b4, c4, hy9_4, k5, kk5]
        refine EV.ret ?_
        simp only [thenK_ret, blockK_ret, scopeK_ret, bodyK_ret]
        replace e := run_back e e4
        subst e
        refine Fin.pure0 ?_
        first | (simp; done) | (simp <;> grind)
       ·try simp at k6
        obtain ⟨f6, e4⟩ := neg_on2 e4 (by first | simpa [k5, kk5] using k6 | grind)
        try simp at f6
        refine EV.skip ?_
        simp only [thenK_normal, blockK_normal, scopeK_normal]
        refine EV.regionG tabOK ?_ -- region 12
        simp (maxSteps := 2000000) -implicitDefEqProofs [k2, u2, hx4, b4, c4, hy9_4, k5, kk5]
        have w4 : IntKind.i64.wrap ((j4 : Int) + 1) = (j4 : Int) + 1 := wrap_in _ (by omega) (by omega)
        refine ⟨⟨j4 + 1, by omega, e4⟩, by dsimp only; omega, ?_⟩
        try dsimp only
        refine Sub.cutF 1 (by simp) ?_ ?_ <;> simp [List.range_succ, toIdx_range, passed, k2, u2, hx4, b4, c4, hy9_4, k5, kk5, w4]
      ·skip
       have kk5 := k5
       try simp at kk5
       refine EV.regionG tabOK ?_ -- region 10
       simp (maxSteps := 2000000) -implicitDefEqProofs +contextual [k2, u2, hx4, b4, c4, hy9_4, k5, kk5]
       refine EV.condT ?_
       simp -implicitDefEqProofs [k2, u2, hx4, b4, c4, hy9_4, k5, kk5]
       replace e4 := pos_on e4 (by simp [k2, u2, hx4, b4, c4, hy9_4, k5, kk5])
       refine EV.seq ?_
       refine EV.regionG tabOK ?_ -- region 11
       simp (maxSteps := 2000000) -implicitDefEqProofs [k2, u2, hx4, b4, c4, hy9_4, k5, kk5]
       refine EV.ret ?_
       simp only [thenK_ret, blockK_ret, scopeK_ret, bodyK_ret]
       replace e := run_back e e4
       subst e
       refine Fin.pure0 ?_
       first | (simp; done) | (simp <;> grind)
    ·try simp at k2
     have d2 : p1.drop j4 = [] := List.drop_eq_nil_of_le (by omega)
     rw [d2, mUses_l4] at e4
     refine EV.exit ?_
     simp -implicitDefEqProofs
     refine ⟨⟨((), ()), e4.symm⟩, ?_⟩
     try dsimp only
     refine Sub.cutF 0 (by simp) ?_ ?_ <;> simp [List.range_succ, toIdx_range, passed]
  ·skip
   rintro ⟨⟨v4, g4⟩, e4⟩
   simp only [thenK_normal, blockK_normal, scopeK_normal, bodyK_normal]
   replace e := run_on e e4
   try dsimp only at e
   refine EV.seq ?_
   refine EV.regionG tabOK ?_ -- region 13
   simp (maxSteps := 2000000) -implicitDefEqProofs
   refine EV.ret ?_
   simp only [thenK_ret, blockK_ret, scopeK_ret, bodyK_ret]
   subst e
   refine Fin.pure0 ?_
   first | (simp; done) | (simp <;> grind)


def mWhich (p0 : MirBodyD) (p1 : ValueD) : Int :=
 (bnd (if p1.k = 10 then (p0.s.structs.length : Int) else (if p1.k = 11 then (p0.s.enums.length : Int) else (if p1.k = 12 then (p0.s.fns.length : Int) else (-1)))) fun (v3 : Int) => (Ctl.run ((if (0 ≤ v3) ∧ ((p1.which < 0) ∨ (v3 ≤ p1.which)) then .ret 71 else (if (v3 < 0) ∧ (¬ (p1.which = 0)) then .ret 80 else (if (¬ (p1.k = 11)) ∧ (¬ (p1.tag = 0)) then .ret 80 else (if p1.k = 11 then (bnd (p0.s.enums.getD ((p1.which).toNat) default) fun (y17_5 : EnumD) => .go (y17_5.variants.length : Int)) else .go 1)))) : Ctl (Int) (Int)) fun (v10 : Int) => (if (p1.tag < 0) ∨ (v10 ≤ p1.tag) then 83 else 0)))
set_option maxHeartbeats 40000000 in
theorem w_mWhich (p0 : MirBodyD) (p1 : ValueD)  : QC prog 60 [.agg [.ro 4 (p0.s.structs.map structC), .ro 3 (p0.s.enums.map enumC), .ro 4 (p0.s.fns.map fnC), .s p0.b.name, .i .i64 p0.b.params, .ro 4 (p0.b.locals.map localC), .ro 17 (p0.b.blocks.map blockC)], .agg [.i .i64 p1.k, .ro 5 (p1.uses.map useC), .i .i64 p1.s.local_, .ro 1 (p1.s.path.map (fun z => [.i .i64 z])), .i .i64 p1.which, .i .i64 p1.tag]] [] (.i .i64 (mWhich p0 p1)) [] := by
 refine QC.of_body tabOK func60 rfl (by kernel_rfl) ?_
 simp only [f60]
 generalize e : mWhich p0 p1 = R
 unfold mWhich at e
 refine EV.seq ?_
 refine EV.regionG tabOK ?_ -- region 0
 simp (maxSteps := 2000000) -implicitDefEqProofs
 refine EV.seq ?_
 refine EV.regionG tabOK ?_ -- region 1
 simp (maxSteps := 2000000) -implicitDefEqProofs
 refine EV.seq ?_
 refine EV.seq ?_
 refine EV.regionG tabOK ?_ -- region 2
 simp (maxSteps := 2000000) -implicitDefEqProofs
 obtain ⟨z3, e3, e⟩ := bnd_split e
 refine EV.nrm (fun v : { v : (Int) × (Unit) // z3 = v.1 } => (fun (v3 : Int) (g3 : Unit) => (⟨[J, J, .ptr 0 0 0 0, .ptr 1 0 0 0, J, .i .i64 v3, J, J, J, J, J, J, J, J, J, J, J, J, J, J, J, J, J, J, J, J, J, J, J, J, J, J, J, J, J, J, J, J, J, J, J, J, J, J, J, J, J, J, J, J, J, J, J, J, J, J, J, J, J, J, J, J, J, J, J, J, J, J, J, J, J, J, J, J, J, J, J, J, J, J], [.arr 0 7 [[.ro 4 (p0.s.structs.map structC), .ro 3 (p0.s.enums.map enumC), .ro 4 (p0.s.fns.map fnC), .s p0.b.name, .i .i64 p0.b.params, .ro 4 (p0.b.locals.map localC), .ro 17 (p0.b.blocks.map blockC)]], .arr 0 6 [[.i .i64 p1.k, .ro 5 (p1.uses.map useC), .i .i64 p1.s.local_, .ro 1 (p1.s.path.map (fun z => [.i .i64 z])), .i .i64 p1.which, .i .i64 p1.tag]]]⟩ : St)) v.1.1 v.1.2) ?_ ?_
 ·skip
  refine EV.block ?_
  refine EV.seq ?_
  refine EV.regionG tabOK ?_ -- region 3
  simp (maxSteps := 2000000) -implicitDefEqProofs
  refine EV.condT ?_
  simp -implicitDefEqProofs
  refine condT_intro (fun k1 => ?_) (fun k1 => ?_)
  ·try simp at k1
   obtain ⟨f1, e3⟩ := pos_on2 e3 (by first | simpa using k1 | grind)
   try simp at f1
   refine EV.regionG tabOK ?_ -- region 4
   simp (maxSteps := 2000000) -implicitDefEqProofs
   refine ⟨⟨((p0.s.structs.length : Int), ()), e3.symm⟩, ?_⟩
   try dsimp only
   refine Sub.cutF 2 (by simp) ?_ ?_ <;> simp [List.range_succ, toIdx_range, passed]
  ·try simp at k1
   obtain ⟨f1, e3⟩ := neg_on2 e3 (by first | simpa using k1 | grind)
   try simp at f1
   refine EV.seq ?_
   refine EV.regionG tabOK ?_ -- region 5
   simp (maxSteps := 2000000) -implicitDefEqProofs
   refine EV.condT ?_
   simp -implicitDefEqProofs
   refine condT_intro (fun k2 => ?_) (fun k2 => ?_)
   ·try simp at k2
    obtain ⟨f2, e3⟩ := pos_on2 e3 (by first | simpa using k2 | grind)
    try simp at f2
    refine EV.regionG tabOK ?_ -- region 6
    simp (maxSteps := 2000000) -implicitDefEqProofs
    refine ⟨⟨((p0.s.enums.length : Int), ()), e3.symm⟩, ?_⟩
    try dsimp only
    refine Sub.cutF 2 (by simp) ?_ ?_ <;> simp [List.range_succ, toIdx_range, passed]
   ·try simp at k2
    obtain ⟨f2, e3⟩ := neg_on2 e3 (by first | simpa using k2 | grind)
    try simp at f2
    refine EV.seq ?_
    refine EV.regionG tabOK ?_ -- region 7
    simp (maxSteps := 2000000) -implicitDefEqProofs
    refine EV.condT ?_
    simp -implicitDefEqProofs
    refine condT_intro (fun k3 => ?_) (fun k3 => ?_)
    ·try simp at k3
     obtain ⟨f3, e3⟩ := pos_on2 e3 (by first | simpa using k3 | grind)
     try simp at f3
     refine EV.regionG tabOK ?_ -- region 8
     simp (maxSteps := 2000000) -implicitDefEqProofs
     refine ⟨⟨((p0.s.fns.length : Int), ()), e3.symm⟩, ?_⟩
     try dsimp only
     refine Sub.cutF 2 (by simp) ?_ ?_ <;> simp [List.range_succ, toIdx_range, passed]
    ·try simp at k3
     obtain ⟨f3, e3⟩ := neg_on2 e3 (by first | simpa using k3 | grind)
     try simp at f3
     refine EV.skip ?_
     simp only [thenK_normal, blockK_normal, scopeK_normal]
     refine ⟨⟨((-1), ()), e3.symm⟩, ?_⟩
     try dsimp only
     refine Sub.cutF 2 (by simp) ?_ ?_ <;> simp [List.range_succ, toIdx_range, passed]
 ·skip
  rintro ⟨⟨v3, g3⟩, e3⟩
  simp only [thenK_normal, blockK_normal, scopeK_normal, bodyK_normal]
  replace e := bnd_on e e3
  try dsimp only at e
  refine EV.seq ?_
  refine EV.regionG tabOK ?_ -- region 9
  simp (maxSteps := 2000000) -implicitDefEqProofs
  refine EV.seq ?_
  obtain ⟨z10, e10, e⟩ := run_split e
  refine EV.nrm (fun v : { v : (Int) × (Unit) // z10 = .go v.1 } => (fun (v10 : Int) (g10 : Unit) => (⟨[J, J, J, .ptr 1 0 0 0, J, J, .i .i64 v10, J, J, J, J, J, J, J, J, J, J, J, J, J, J, J, J, J, J, J, J, J, J, J, J, J, J, J, J, J, J, J, J, J, J, J, J, J, J, J, J, J, J, J, J, J, J, J, J, J, J, J, J, J, J, J, J, J, J, J, J, J, J, J, J, J, J, J, J, J, J, J, J, J], [.arr 0 7 [[.ro 4 (p0.s.structs.map structC), .ro 3 (p0.s.enums.map enumC), .ro 4 (p0.s.fns.map fnC), .s p0.b.name, .i .i64 p0.b.params, .ro 4 (p0.b.locals.map localC), .ro 17 (p0.b.blocks.map blockC)]], .arr 0 6 [[.i .i64 p1.k, .ro 5 (p1.uses.map useC), .i .i64 p1.s.local_, .ro 1 (p1.s.path.map (fun z => [.i .i64 z])), .i .i64 p1.which, .i .i64 p1.tag]]]⟩ : St)) v.1.1 v.1.2) ?_ ?_
  ·skip
   refine EV.block ?_
   refine EV.seq ?_
   refine EV.regionG tabOK ?_ -- region 10
   simp (maxSteps := 2000000) -implicitDefEqProofs +contextual
   refine EV.condT ?_
   simp -implicitDefEqProofs
   refine condT_intro (fun k4 => ?_) (fun k4 => ?_)
   ·try simp at k4
    obtain ⟨f4, e10⟩ := pos_on2 e10 (by first | simpa using k4 | grind)
    try simp at f4
    refine EV.seq ?_
    refine EV.regionG tabOK ?_ -- region 11
    simp (maxSteps := 2000000) -implicitDefEqProofs
    refine EV.ret ?_
    simp only [thenK_ret, blockK_ret, scopeK_ret, bodyK_ret]
    replace e := run_back e e10
    subst e
    refine Fin.pure0 ?_
    first | (simp; done) | (simp <;> grind)
   ·try simp at k4
    obtain ⟨f4, e10⟩ := neg_on2 e10 (by first | simpa using k4 | grind)
    try simp at f4
    refine EV.seq ?_
    refine EV.regionG tabOK ?_ -- region 12
    simp (maxSteps := 2000000) -implicitDefEqProofs +contextual
    refine EV.condT ?_
    simp -implicitDefEqProofs
    refine condT_intro (fun k5 => ?_) (fun k5 => ?_)
    ·try simp at k5
     obtain ⟨f5, e10⟩ := pos_on2 e10 (by first | simpa using k5 | grind)
     try simp at f5
     refine EV.seq ?_
     refine EV.regionG tabOK ?_ -- region 13
     simp (maxSteps := 2000000) -implicitDefEqProofs
     refine EV.ret ?_
     simp only [thenK_ret, blockK_ret, scopeK_ret, bodyK_ret]
     replace e := run_back e e10
     subst e
     refine Fin.pure0 ?_
     first | (simp; done) | (simp <;> grind)
    ·try simp at k5
     obtain ⟨f5, e10⟩ := neg_on2 e10 (by first | simpa using k5 | grind)
     try simp at f5
     refine EV.seq ?_
     refine EV.regionG tabOK ?_ -- region 14
     simp (maxSteps := 2000000) -implicitDefEqProofs +contextual
     refine EV.condT ?_
     simp -implicitDefEqProofs
     refine condT_intro (fun k6 => ?_) (fun k6 => ?_)
     ·try simp at k6
      obtain ⟨f6, e10⟩ := pos_on2 e10 (by first | simpa using k6 | grind)
      try simp at f6
      refine EV.seq ?_
      refine EV.regionG tabOK ?_ -- region 15
      simp (maxSteps := 2000000) -implicitDefEqProofs
      refine EV.ret ?_
      simp only [thenK_ret, blockK_ret, scopeK_ret, bodyK_ret]
      replace e := run_back e e10
      subst e
      refine Fin.pure0 ?_
      first | (simp; done) | (simp <;> grind)
     ·try simp at k6
      obtain ⟨f6, e10⟩ := neg_on2 e10 (by first | simpa using k6 | grind)
      try simp at f6
      refine EV.seq ?_
      refine EV.regionG tabOK ?_ -- region 16
      simp (maxSteps := 2000000) -implicitDefEqProofs
      refine EV.condT ?_
      simp -implicitDefEqProofs
      refine condT_intro (fun k7 => ?_) (fun k7 => ?_)
      ·try simp at k7
       obtain ⟨f7, e10⟩ := pos_on2 e10 (by first | simpa using k7 | grind)
       try simp at f7
       obtain ⟨y17_5, gy17_5⟩ : ∃ z, (p0.s.enums.getD ((p1.which).toNat) default) = z := ⟨_, rfl⟩
       replace e10 := bnd_on e10 gy17_5
       try dsimp only at e10
       have b8 : 0 ≤ p1.which ∧ p1.which < (p0.s.enums.length : Int) := by omega
       have c8 : (p1.which).toNat < p0.s.enums.length := by omega
       have hy17_5 : p0.s.enums[(p1.which).toNat] = y17_5 := by rw [← gy17_5, List.getD_eq_getElem?_getD, List.getElem?_eq_getElem c8]; rfl
       have my17_5 : y17_5 ∈ p0.s.enums := by rw [← hy17_5]; exact List.getElem_mem _
       refine EV.regionG tabOK ?_ -- region 17
       simp (maxSteps := 2000000) -implicitDefEqProofs [b8, c8, hy17_5]
       refine ⟨⟨((y17_5.variants.length : Int), ()), e10.symm⟩, ?_⟩
       try dsimp only
       refine Sub.cutF 2 (by simp) ?_ ?_ <;> simp [List.range_succ, toIdx_range, passed, b8, c8, hy17_5]
      ·try simp at k7
       obtain ⟨f7, e10⟩ := neg_on2 e10 (by first | simpa using k7 | grind)
       try simp at f7
       refine EV.skip ?_
       simp only [thenK_normal, blockK_normal, scopeK_normal]
       refine ⟨⟨(1, ()), e10.symm⟩, ?_⟩
       try dsimp only
       refine Sub.cutF 2 (by simp) ?_ ?_ <;> simp [List.range_succ, toIdx_range, passed]
  ·skip
   rintro ⟨⟨v10, g10⟩, e10⟩
   simp only [thenK_normal, blockK_normal, scopeK_normal, bodyK_normal]
   replace e := run_on e e10
   try dsimp only at e
   refine EV.seq ?_
   refine EV.seq ?_
   refine EV.regionG tabOK ?_ -- region 18
   simp (maxSteps := 2000000) -implicitDefEqProofs +contextual
   refine EV.condT ?_
   simp -implicitDefEqProofs
   refine condT_intro (fun k9 => ?_) (fun k9 => ?_)
   ·try simp at k9
    obtain ⟨f9, e⟩ := pos_on2 e (by first | simpa using k9 | grind)
    try simp at f9
    refine EV.seq ?_
    refine EV.regionG tabOK ?_ -- region 19
    simp (maxSteps := 2000000) -implicitDefEqProofs
    refine EV.ret ?_
    simp only [thenK_ret, blockK_ret, scopeK_ret, bodyK_ret]
    subst e
    refine Fin.pure0 ?_
    first | (simp; done) | (simp <;> grind)
   ·try simp at k9
    obtain ⟨f9, e⟩ := neg_on2 e (by first | simpa using k9 | grind)
    try simp at f9
    refine EV.skip ?_
    simp only [thenK_normal, blockK_normal, scopeK_normal]
    refine EV.seq ?_
    refine EV.regionG tabOK ?_ -- region 20
    simp (maxSteps := 2000000) -implicitDefEqProofs
    refine EV.ret ?_
    simp only [thenK_ret, blockK_ret, scopeK_ret, bodyK_ret]
    subst e
    refine Fin.pure0 ?_
    first | (simp; done) | (simp <;> grind)


def mRefers (p0 : MirBodyD) (p1 : ValueD) : TyD × Int :=
 (bnd (if p1.k = 7 then 6 else 5) fun (v4 : Int) => (if ¬ ((mSpot p0 p1.s).2.2 = 0) then ((TyD.mk 0 ([] : List UInt8) ([])), (mSpot p0 p1.s).2.2) else (if (kHolds ((mSpot p0 p1.s).1)) = true then ((TyD.mk 0 ([] : List UInt8) ([])), 73) else (if (v4 = 6) ∧ ((mSpot p0 p1.s).2.1 = true) then ((TyD.mk 0 ([] : List UInt8) ([])), 84) else (if 0 < (p1.uses.length : Int) then ((TyD.mk 0 ([] : List UInt8) ([])), 81) else ((TyD.mk v4 ([] : List UInt8) ([((mSpot p0 p1.s).1)] : List TyD)), 0))))))
set_option maxHeartbeats 40000000 in
theorem w_mRefers (p0 : MirBodyD) (p1 : ValueD)  : QC prog 61 [.agg [.ro 4 (p0.s.structs.map structC), .ro 3 (p0.s.enums.map enumC), .ro 4 (p0.s.fns.map fnC), .s p0.b.name, .i .i64 p0.b.params, .ro 4 (p0.b.locals.map localC), .ro 17 (p0.b.blocks.map blockC)], .agg [.i .i64 p1.k, .ro 5 (p1.uses.map useC), .i .i64 p1.s.local_, .ro 1 (p1.s.path.map (fun z => [.i .i64 z])), .i .i64 p1.which, .i .i64 p1.tag]] [] (.tup [.agg [.i .i64 (((mRefers p0 p1).1).k), .s (((mRefers p0 p1).1).name), .ro 3 ((((mRefers p0 p1).1).l).map tyC)], .i .i64 ((mRefers p0 p1).2)]) [] := by
 refine QC.of_body tabOK func61 rfl (by kernel_rfl) ?_
 simp only [f61]
 generalize e : mRefers p0 p1 = R
 unfold mRefers at e
 refine EV.seq ?_
 refine EV.regionG tabOK ?_ -- region 0
 simp (maxSteps := 2000000) -implicitDefEqProofs
 refine EV.seq ?_
 refine EV.regionG tabOK ?_ -- region 1
 simp (maxSteps := 2000000) -implicitDefEqProofs
 refine callG_fun (w_mSpot p0 p1.s) ?_ ?_
 ·simp
 simp (maxSteps := 2000000) -implicitDefEqProofs
 refine EV.seq ?_
 refine EV.regionG tabOK ?_ -- region 2
 simp (maxSteps := 2000000) -implicitDefEqProofs
 refine EV.seq ?_
 refine EV.seq ?_
 refine EV.regionG tabOK ?_ -- region 3
 simp (maxSteps := 2000000) -implicitDefEqProofs
 obtain ⟨z4, e4, e⟩ := bnd_split e
 refine EV.nrm (fun v : { v : (Int) × (Unit) // z4 = v.1 } => (fun (v4 : Int) (g4 : Unit) => (⟨[J, J, J, .ptr 1 0 0 0, .ptr 2 0 0 0, J, .ptr 3 0 0 0, .b ((mSpot p0 p1.s).2.1), .i .i64 ((mSpot p0 p1.s).2.2), .i .i64 v4, J, J, J, J, J, J, J, J, J, J, J, J, J, J, J, J, J, J, J, J, J, J, J, J, J, J, J, J, J, J, J, J, J, J, J, J, J], [.arr 0 7 [[.ro 4 (p0.s.structs.map structC), .ro 3 (p0.s.enums.map enumC), .ro 4 (p0.s.fns.map fnC), .s p0.b.name, .i .i64 p0.b.params, .ro 4 (p0.b.locals.map localC), .ro 17 (p0.b.blocks.map blockC)]], .arr 0 6 [[.i .i64 p1.k, .ro 5 (p1.uses.map useC), .i .i64 p1.s.local_, .ro 1 (p1.s.path.map (fun z => [.i .i64 z])), .i .i64 p1.which, .i .i64 p1.tag]], .arr 0 3 [[.i .i64 0, .s ([] : List UInt8), .c (.slice none 0 0)]], .arr 0 3 [[.i .i64 (((mSpot p0 p1.s).1).k), .s (((mSpot p0 p1.s).1).name), .ro 3 ((((mSpot p0 p1.s).1).l).map tyC)]]]⟩ : St)) v.1.1 v.1.2) ?_ ?_
 ·skip
  refine EV.condT ?_
  simp -implicitDefEqProofs
  refine condT_intro (fun k1 => ?_) (fun k1 => ?_)
  ·try simp at k1
   obtain ⟨f1, e4⟩ := pos_on2 e4 (by first | simpa using k1 | grind)
   try simp at f1
   refine EV.regionG tabOK ?_ -- region 4
   simp (maxSteps := 2000000) -implicitDefEqProofs
   refine ⟨⟨(6, ()), e4.symm⟩, ?_⟩
   try dsimp only
   refine Sub.cutF 4 (by simp) ?_ ?_ <;> simp [List.range_succ, toIdx_range, passed]
  ·try simp at k1
   obtain ⟨f1, e4⟩ := neg_on2 e4 (by first | simpa using k1 | grind)
   try simp at f1
   refine EV.skip ?_
   simp only [thenK_normal, blockK_normal, scopeK_normal]
   refine ⟨⟨(5, ()), e4.symm⟩, ?_⟩
   try dsimp only
   refine Sub.cutF 4 (by simp) ?_ ?_ <;> simp [List.range_succ, toIdx_range, passed]
 ·skip
  rintro ⟨⟨v4, g4⟩, e4⟩
  simp only [thenK_normal, blockK_normal, scopeK_normal, bodyK_normal]
  replace e := bnd_on e e4
  try dsimp only at e
  refine EV.seq ?_
  refine EV.block ?_
  refine EV.seq ?_
  refine EV.regionG tabOK ?_ -- region 5
  simp (maxSteps := 2000000) -implicitDefEqProofs
  refine EV.condT ?_
  simp -implicitDefEqProofs
  refine condT_intro (fun k2 => ?_) (fun k2 => ?_)
  ·try simp at k2
   obtain ⟨f2, e⟩ := pos_on2 e (by first | simpa using k2 | grind)
   try simp at f2
   refine EV.seq ?_
   refine EV.regionG tabOK ?_ -- region 6
   simp (maxSteps := 2000000) -implicitDefEqProofs
   refine EV.ret ?_
   simp only [thenK_ret, blockK_ret, scopeK_ret, bodyK_ret]
   subst e
   refine Fin.data ?_ ?_
   ·simp [convV, conv1, conv0, cvOb, allP, allR, c0, Pu, take_len_map, List.getD, List.range_succ]
   ·simp [List.range_succ]
  ·try simp at k2
   obtain ⟨f2, e⟩ := neg_on2 e (by first | simpa using k2 | grind)
   try simp at f2
   refine EV.seq ?_
   refine EV.regionG tabOK ?_ -- region 7
   simp (maxSteps := 2000000) -implicitDefEqProofs
   refine callG_fun (w_kHolds ((mSpot p0 p1.s).1)) ?_ ?_
   ·simp
   simp (maxSteps := 2000000) -implicitDefEqProofs
   refine EV.condT ?_
   simp -implicitDefEqProofs
   refine condT_intro (fun k3 => ?_) (fun k3 => ?_)
   ·try simp at k3
    obtain ⟨f3, e⟩ := pos_on2 e (by first | simpa using k3 | grind)
    try simp at f3
    refine EV.seq ?_
    refine EV.regionG tabOK ?_ -- region 8
    simp (maxSteps := 2000000) -implicitDefEqProofs
    refine EV.ret ?_
    simp only [thenK_ret, blockK_ret, scopeK_ret, bodyK_ret]
    subst e
    refine Fin.data ?_ ?_
    ·simp [convV, conv1, conv0, cvOb, allP, allR, c0, Pu, take_len_map, List.getD, List.range_succ]
    ·simp [List.range_succ]
   ·try simp at k3
    obtain ⟨f3, e⟩ := neg_on2 e (by first | simpa using k3 | grind)
    try simp at f3
    refine EV.seq ?_
    refine EV.regionG tabOK ?_ -- region 9
    simp (maxSteps := 2000000) -implicitDefEqProofs +contextual
    refine EV.condT ?_
    simp -implicitDefEqProofs
    refine condT_intro (fun k4 => ?_) (fun k4 => ?_)
    ·try simp at k4
     obtain ⟨f4, e⟩ := pos_on2 e (by first | simpa using k4 | grind)
     try simp at f4
     refine EV.seq ?_
     refine EV.regionG tabOK ?_ -- region 10
     simp (maxSteps := 2000000) -implicitDefEqProofs
     refine EV.ret ?_
     simp only [thenK_ret, blockK_ret, scopeK_ret, bodyK_ret]
     subst e
     refine Fin.data ?_ ?_
     ·simp [convV, conv1, conv0, cvOb, allP, allR, c0, Pu, take_len_map, List.getD, List.range_succ]
     ·simp [List.range_succ]
    ·try simp at k4
     obtain ⟨f4, e⟩ := neg_on2 e (by first | simpa using k4 | grind)
     try simp at f4
     refine EV.seq ?_
     refine EV.regionG tabOK ?_ -- region 11
     simp (maxSteps := 2000000) -implicitDefEqProofs
     refine EV.condT ?_
     simp -implicitDefEqProofs
     refine condT_intro (fun k5 => ?_) (fun k5 => ?_)
     ·try simp at k5
      obtain ⟨f5, e⟩ := pos_on2 e (by first | simpa using k5 | grind)
      try simp at f5
      refine EV.seq ?_
      refine EV.regionG tabOK ?_ -- region 12
      simp (maxSteps := 2000000) -implicitDefEqProofs
      refine EV.ret ?_
      simp only [thenK_ret, blockK_ret, scopeK_ret, bodyK_ret]
      subst e
      refine Fin.data ?_ ?_
      ·simp [convV, conv1, conv0, cvOb, allP, allR, c0, Pu, take_len_map, List.getD, List.range_succ]
      ·simp [List.range_succ]
     ·try simp at k5
      obtain ⟨f5, e⟩ := neg_on2 e (by first | simpa using k5 | grind)
      try simp at f5
      refine EV.skip ?_
      simp only [thenK_normal, blockK_normal, scopeK_normal]
      refine EV.seq ?_
      refine EV.regionG tabOK ?_ -- region 13
      simp (maxSteps := 2000000) -implicitDefEqProofs
      refine EV.ret ?_
      simp only [thenK_ret, blockK_ret, scopeK_ret, bodyK_ret]
      subst e
      refine Fin.data ?_ ?_
      ·simp [convV, conv1, conv0, cvOb, allP, allR, c0, Pu, take_len_map, List.getD, List.range_succ]
      ·simp [List.range_succ]


def mUnboxes (p0 : MirBodyD) (p1 : ValueD) : TyD × Int :=
 (if (¬ ((mSpot p0 p1.s).2.2 = 0)) ∨ (0 < (p1.s.path.length : Int)) then ((TyD.mk 0 ([] : List UInt8) ([])), 84) else (if (¬ (((mSpot p0 p1.s).1).k = 4)) ∨ (¬ (((((mSpot p0 p1.s).1).l).length : Int) = 1)) then ((TyD.mk 0 ([] : List UInt8) ([])), 80) else (if 0 < (p1.uses.length : Int) then ((TyD.mk 0 ([] : List UInt8) ([])), 81) else (bnd ((((mSpot p0 p1.s).1).l).getD 0 default) fun (y8_2 : TyD) => (y8_2, 0)))))
set_option maxHeartbeats 40000000 in
theorem w_mUnboxes (p0 : MirBodyD) (p1 : ValueD)  : QC prog 62 [.agg [.ro 4 (p0.s.structs.map structC), .ro 3 (p0.s.enums.map enumC), .ro 4 (p0.s.fns.map fnC), .s p0.b.name, .i .i64 p0.b.params, .ro 4 (p0.b.locals.map localC), .ro 17 (p0.b.blocks.map blockC)], .agg [.i .i64 p1.k, .ro 5 (p1.uses.map useC), .i .i64 p1.s.local_, .ro 1 (p1.s.path.map (fun z => [.i .i64 z])), .i .i64 p1.which, .i .i64 p1.tag]] [] (.tup [.agg [.i .i64 (((mUnboxes p0 p1).1).k), .s (((mUnboxes p0 p1).1).name), .ro 3 ((((mUnboxes p0 p1).1).l).map tyC)], .i .i64 ((mUnboxes p0 p1).2)]) [] := by
 refine QC.of_body tabOK func62 rfl (by kernel_rfl) ?_
 simp only [f62]
 generalize e : mUnboxes p0 p1 = R
 unfold mUnboxes at e
 refine EV.seq ?_
 refine EV.regionG tabOK ?_ -- region 0
 simp (maxSteps := 2000000) -implicitDefEqProofs
 refine EV.seq ?_
 refine EV.regionG tabOK ?_ -- region 1
 simp (maxSteps := 2000000) -implicitDefEqProofs
 refine callG_fun (w_mSpot p0 p1.s) ?_ ?_
 ·simp
 simp (maxSteps := 2000000) -implicitDefEqProofs
 refine EV.seq ?_
 refine EV.block ?_
 refine EV.seq ?_
 refine EV.regionG tabOK ?_ -- region 2
 simp (maxSteps := 2000000) -implicitDefEqProofs +contextual
 refine EV.condT ?_
 simp -implicitDefEqProofs
 refine condT_intro (fun k1 => ?_) (fun k1 => ?_)
 ·try simp at k1
  obtain ⟨f1, e⟩ := pos_on2 e (by first | simpa using k1 | grind)
  try simp at f1
  refine EV.seq ?_
  refine EV.regionG tabOK ?_ -- region 3
  simp (maxSteps := 2000000) -implicitDefEqProofs
  refine EV.ret ?_
  simp only [thenK_ret, blockK_ret, scopeK_ret, bodyK_ret]
  subst e
  refine Fin.data ?_ ?_
  ·simp [convV, conv1, conv0, cvOb, allP, allR, c0, Pu, take_len_map, List.getD, List.range_succ]
  ·simp [List.range_succ]
 ·try simp at k1
  obtain ⟨f1, e⟩ := neg_on2 e (by first | simpa using k1 | grind)
  try simp at f1
  refine EV.seq ?_
  refine EV.regionG tabOK ?_ -- region 4
  simp (maxSteps := 2000000) -implicitDefEqProofs +contextual
  refine EV.condT ?_
  simp -implicitDefEqProofs
  refine condT_intro (fun k2 => ?_) (fun k2 => ?_)
  ·try simp at k2
   obtain ⟨f2, e⟩ := pos_on2 e (by first | simpa using k2 | grind)
   try simp at f2
   refine EV.seq ?_
   refine EV.regionG tabOK ?_ -- region 5
   simp (maxSteps := 2000000) -implicitDefEqProofs
   refine EV.ret ?_
   simp only [thenK_ret, blockK_ret, scopeK_ret, bodyK_ret]
   subst e
   refine Fin.data ?_ ?_
   ·simp [convV, conv1, conv0, cvOb, allP, allR, c0, Pu, take_len_map, List.getD, List.range_succ]
   ·simp [List.range_succ]
  ·try simp at k2
   obtain ⟨f2, e⟩ := neg_on2 e (by first | simpa using k2 | grind)
   try simp at f2
   refine EV.seq ?_
   refine EV.regionG tabOK ?_ -- region 6
   simp (maxSteps := 2000000) -implicitDefEqProofs
   refine EV.condT ?_
   simp -implicitDefEqProofs
   refine condT_intro (fun k3 => ?_) (fun k3 => ?_)
   ·try simp at k3
    obtain ⟨f3, e⟩ := pos_on2 e (by first | simpa using k3 | grind)
    try simp at f3
    refine EV.seq ?_
    refine EV.regionG tabOK ?_ -- region 7
    simp (maxSteps := 2000000) -implicitDefEqProofs
    refine EV.ret ?_
    simp only [thenK_ret, blockK_ret, scopeK_ret, bodyK_ret]
    subst e
    refine Fin.data ?_ ?_
    ·simp [convV, conv1, conv0, cvOb, allP, allR, c0, Pu, take_len_map, List.getD, List.range_succ]
    ·simp [List.range_succ]
   ·try simp at k3
    obtain ⟨f3, e⟩ := neg_on2 e (by first | simpa using k3 | grind)
    try simp at f3
    refine EV.skip ?_
    simp only [thenK_normal, blockK_normal, scopeK_normal]
    refine EV.seq ?_
    obtain ⟨y8_2, gy8_2⟩ : ∃ z, ((((mSpot p0 p1.s).1).l).getD 0 default) = z := ⟨_, rfl⟩
    replace e := bnd_on e gy8_2
    try dsimp only at e
    have b4 : 0 ≤ 0 ∧ 0 < ((((mSpot p0 p1.s).1).l).length : Int) := by omega
    have c4 : 0 < (((mSpot p0 p1.s).1).l).length := by omega
    have hy8_2 : (((mSpot p0 p1.s).1).l)[0] = y8_2 := by rw [← gy8_2, List.getD_eq_getElem?_getD, List.getElem?_eq_getElem c4]; rfl
    have my8_2 : y8_2 ∈ (((mSpot p0 p1.s).1).l) := by rw [← hy8_2]; exact List.getElem_mem _
    refine EV.regionG tabOK ?_ -- region 8
    simp (maxSteps := 2000000) -implicitDefEqProofs [b4, c4, hy8_2]
    refine EV.ret ?_
    simp only [thenK_ret, blockK_ret, scopeK_ret, bodyK_ret]
    subst e
    refine Fin.pure0 ?_
    first | (simp; done) | (simp <;> grind)

def mTypes_l3  : List FieldD → (List TyD) → (List TyD)
 | [], a3_0 => a3_0
 | x3 :: xs3, a3_0 => mTypes_l3 xs3 (a3_0 ++ ([x3.ty] : List TyD))
def mTypes (p0 : List FieldD) : (List TyD) :=
 (bnd (mTypes_l3 p0 ([] : List TyD)) fun (v3 : (List TyD)) => v3)
set_option maxHeartbeats 40000000 in
theorem w_mTypes (p0 : List FieldD) (hl : p0.length ≤ 2199023255551) : QC prog 83 [.ro 4 (p0.map fieldC)] [] (.ro 3 ((mTypes p0).map tyC)) [] := by
 refine QC.of_body tabOK func83 rfl (by kernel_rfl) ?_
 simp only [f83]
 generalize e : mTypes p0 = R
 unfold mTypes at e
 refine EV.seq ?_
 refine EV.regionG tabOK ?_ -- region 0
 simp (maxSteps := 2000000) -implicitDefEqProofs
 refine EV.seq ?_
 refine EV.regionG tabOK ?_ -- region 1
 simp (maxSteps := 2000000) -implicitDefEqProofs
 refine EV.seq ?_
 refine EV.seq ?_
 refine EV.regionG tabOK ?_ -- region 2
 simp (maxSteps := 2000000) -implicitDefEqProofs
 obtain ⟨z3, e3, e⟩ := bnd_split e
 refine EV.nrm (fun v : { v : ((List TyD)) × (Nat) // z3 = v.1 } => (fun (v3 : (List TyD)) (g3 : Nat) => (⟨[J, J, J, .sl 0 g3 0 v3.length, J, J, J, J, J, J, J, J, J, J, J, J, J, J, J], [.arr g3 3 (v3.map tyC)]⟩ : St)) v.1.1 v.1.2) ?_ ?_
 ·skip
  refine EV.block ?_
  refine EV.loopB (fun x : { x : Nat × (List TyD) × Nat // x.1 ≤ p0.length ∧ mTypes_l3 (p0.drop x.1) x.2.1 = z3 ∧ (fun (j3 : Nat) (a3_0 : List TyD) (a3_g0 : Nat) => a3_0.length = j3) x.1 x.2.1 x.2.2 } => (fun (j3 : Nat) (a3_0 : List TyD) (a3_g0 : Nat) => (⟨[J, J, J, .sl 0 a3_g0 0 a3_0.length, J, J, .ro 4 (p0.map fieldC), .i .i64 (p0.length : Int), .i .i64 (j3 : Int), J, J, J, J, J, J, J, J, J, J], [.arr a3_g0 3 (a3_0.map tyC)]⟩ : St)) x.1.1 x.1.2.1 x.1.2.2) (fun x => p0.length - x.1.1) ⟨(0, ([] : List TyD), 0), Nat.zero_le _, e3, by ((try dsimp only); first | omega | assumption | (simp; done) | (simp; assumption) | (simp; omega) | (simp at *; omega) | simp_all)⟩ ?_ ?_
  ·skip
   refine Sub.trans (Sub.newNilE 0 3 3 (by decide) (by simp)) ?_
   try dsimp only
   try dsimp only
   refine Sub.cutF 1 (by simp) ?_ ?_ <;> simp [List.range_succ, toIdx_range, passed]
  ·skip
   rintro ⟨⟨j3, a3_0, a3_g0⟩, hi3, e3, q3⟩
   simp only at hi3 e3 ⊢
   try dsimp only at q3
   refine EV.seq ?_
   refine EV.regionG tabOK ?_ -- region 3
   simp (maxSteps := 2000000) -implicitDefEqProofs
   refine EV.seq ?_
   refine EV.room 6 (by rfl) (fun mj3 => ?_)
   simp at mj3
   refine EV.condT ?_
   simp -implicitDefEqProofs
   refine condT_intro (fun k1 => ?_) (fun k1 => ?_)
   ·try simp at k1
    have u1 : j3 < p0.length := by omega
    obtain ⟨x3, hx3⟩ : ∃ z, p0[j3] = z := ⟨_, rfl⟩
    have mx3 : x3 ∈ p0 := by rw [← hx3]; exact List.getElem_mem _
    rw [List.drop_eq_getElem_cons u1, hx3, mTypes_l3] at e3
    refine EV.skip ?_
    simp only [thenK_normal, blockK_normal, scopeK_normal]
    refine EV.seq ?_
    refine EV.block ?_
    refine EV.seq ?_
    refine EV.regionG tabOK ?_ -- region 4
    simp (maxSteps := 2000000) -implicitDefEqProofs [k1, u1, hx3]
    have r2 : roomFor (a3_0.length + 1) 48 := And.intro (by omega) (by omega)
    refine EV.regionG tabOK ?_ -- region 5
    simp (maxSteps := 2000000) -implicitDefEqProofs [k1, u1, hx3, r2]
    refine EV.regionG tabOK ?_ -- region 6
    simp (maxSteps := 2000000) -implicitDefEqProofs [k1, u1, hx3, r2]
    have w3 : IntKind.i64.wrap ((j3 : Int) + 1) = (j3 : Int) + 1 := wrap_in _ (by omega) (by omega)
    refine ⟨⟨(j3 + 1, (a3_0 ++ ([x3.ty] : List TyD)), (a3_g0 + 1)), by omega, e3, by ((try dsimp only); first | omega | assumption | (simp; done) | (simp; assumption) | (simp; omega) | (simp at *; omega) | simp_all)⟩, by dsimp only; omega, ?_⟩
    try dsimp only
    refine Sub.cutF 1 (by simp) ?_ ?_ <;> simp [List.range_succ, toIdx_range, passed, k1, u1, hx3, r2, w3]
   ·try simp at k1
    have d1 : p0.drop j3 = [] := List.drop_eq_nil_of_le (by omega)
    rw [d1, mTypes_l3] at e3
    refine EV.exit ?_
    simp -implicitDefEqProofs
    refine ⟨⟨(a3_0, a3_g0), e3.symm⟩, ?_⟩
    try dsimp only
    refine Sub.cutF 1 (by simp) ?_ ?_ <;> simp [List.range_succ, toIdx_range, passed]
 ·skip
  rintro ⟨⟨v3, g3⟩, e3⟩
  simp only [thenK_normal, blockK_normal, scopeK_normal, bodyK_normal]
  replace e := bnd_on e e3
  try dsimp only at e
  refine EV.seq ?_
  refine EV.regionG tabOK ?_ -- region 7
  simp (maxSteps := 2000000) -implicitDefEqProofs
  refine EV.ret ?_
  simp only [thenK_ret, blockK_ret, scopeK_ret, bodyK_ret]
  subst e
  refine Fin.data ?_ ?_
  ·simp [convV, conv1, conv0, cvOb, allP, allR, c0, Pu, take_len_map, List.getD, List.range_succ]
  ·simp [List.range_succ]
theorem mWhich_ok (p0 : MirBodyD) (p1 : ValueD) (h : mWhich p0 p1 = 0) :
  (p1.k = 10 → 0 ≤ p1.which ∧ p1.which < p0.s.structs.length) ∧ (p1.k = 12 → 0 ≤ p1.which ∧ p1.which < p0.s.fns.length) ∧
   (p1.k = 11 → (0 ≤ p1.which ∧ p1.which < p0.s.enums.length) ∧ 0 ≤ p1.tag ∧ p1.tag < (p0.s.enums.getD p1.which.toNat default).variants.length) := by
 unfold mWhich bnd at h
 refine ⟨fun hk => ?_, fun hk => ?_, fun hk => ?_⟩
 ·simp only [hk] at h
  simp at h
  split at h
  ·simp [Ctl.run] at h
  ·omega
 ·simp only [hk] at h
  simp at h
  split at h
  ·simp [Ctl.run] at h
  ·omega
 ·simp only [hk] at h
  simp at h
  split at h
  ·simp [Ctl.run] at h
  ·rename_i hn
   split at h
   ·omega
   ·simp only [Ctl.run] at h
    split at h
    ·simp at h
    ·simp at *
     omega


def mMade (p0 : MirBodyD) (p1 : ValueD) : TyD × (List TyD) :=
 (if p1.k = 10 then (bnd (p0.s.structs.getD ((p1.which).toNat) default) fun (y3_5 : StructD) => ((TyD.mk 2 y3_5.name ([])), (mTypes y3_5.fields))) else (if p1.k = 12 then (bnd (p0.s.fns.getD ((p1.which).toNat) default) fun (y6_5 : FnD) => ((TyD.mk 7 y6_5.name ([])), (mTypes y6_5.params))) else (if p1.k = 11 then (bnd (p0.s.enums.getD ((p1.which).toNat) default) fun (y9_5 : EnumD) => (bnd (y9_5.variants.getD ((p1.tag).toNat) default) fun (y11_4 : VariantD) => (if ¬ (y11_4.ty.k = 0) then ((TyD.mk 3 y9_5.name ([])), ([y11_4.ty] : List TyD)) else ((TyD.mk 3 y9_5.name ([])), [])))) else ((TyD.mk 1 ([] : List UInt8) ([])), ([(TyD.mk 1 ([] : List UInt8) ([])), (TyD.mk 1 ([] : List UInt8) ([]))] : List TyD)))))
set_option maxHeartbeats 40000000 in
theorem w_mMade (p0 : MirBodyD) (p1 : ValueD) (hs : SrcOK p0.s) (h10 : p1.k = 10 → 0 ≤ p1.which ∧ p1.which < p0.s.structs.length) (h12 : p1.k = 12 → 0 ≤ p1.which ∧ p1.which < p0.s.fns.length) (h11 : p1.k = 11 → (0 ≤ p1.which ∧ p1.which < p0.s.enums.length) ∧ 0 ≤ p1.tag ∧ p1.tag < (p0.s.enums.getD p1.which.toNat default).variants.length) : QC prog 63 [.agg [.ro 4 (p0.s.structs.map structC), .ro 3 (p0.s.enums.map enumC), .ro 4 (p0.s.fns.map fnC), .s p0.b.name, .i .i64 p0.b.params, .ro 4 (p0.b.locals.map localC), .ro 17 (p0.b.blocks.map blockC)], .agg [.i .i64 p1.k, .ro 5 (p1.uses.map useC), .i .i64 p1.s.local_, .ro 1 (p1.s.path.map (fun z => [.i .i64 z])), .i .i64 p1.which, .i .i64 p1.tag]] [] (.tup [.agg [.i .i64 (((mMade p0 p1).1).k), .s (((mMade p0 p1).1).name), .ro 3 ((((mMade p0 p1).1).l).map tyC)], .ro 3 (((mMade p0 p1).2).map tyC)]) [] := by
 refine QC.of_body tabOK func63 rfl (by kernel_rfl) ?_
 simp only [f63]
 generalize e : mMade p0 p1 = R
 unfold mMade at e
 refine EV.seq ?_
 refine EV.regionG tabOK ?_ -- region 0
 simp (maxSteps := 2000000) -implicitDefEqProofs
 refine EV.seq ?_
 refine EV.seq ?_
 refine EV.regionG tabOK ?_ -- region 1
 simp (maxSteps := 2000000) -implicitDefEqProofs
 refine EV.block ?_
 refine EV.seq ?_
 refine EV.regionG tabOK ?_ -- region 2
 simp (maxSteps := 2000000) -implicitDefEqProofs
 refine EV.condT ?_
 simp -implicitDefEqProofs
 refine condT_intro (fun k1 => ?_) (fun k1 => ?_)
 ·try simp at k1
  obtain ⟨f1, e⟩ := pos_on2 e (by first | simpa using k1 | grind)
  try simp at f1
  refine EV.seq ?_
  obtain ⟨y3_5, gy3_5⟩ : ∃ z, (p0.s.structs.getD ((p1.which).toNat) default) = z := ⟨_, rfl⟩
  replace e := bnd_on e gy3_5
  try dsimp only at e
  have b2 : 0 ≤ p1.which ∧ p1.which < (p0.s.structs.length : Int) := by (first | omega | (have q10 := h10 (by assumption); omega) | (have q12 := h12 (by assumption); omega) | (have q11 := h11 (by assumption); first | omega | (simp_all; omega) | (simp_all)))
  have c2 : (p1.which).toNat < p0.s.structs.length := by omega
  have hy3_5 : p0.s.structs[(p1.which).toNat] = y3_5 := by rw [← gy3_5, List.getD_eq_getElem?_getD, List.getElem?_eq_getElem c2]; rfl
  have my3_5 : y3_5 ∈ p0.s.structs := by rw [← hy3_5]; exact List.getElem_mem _
  refine EV.regionG tabOK ?_ -- region 3
  simp (maxSteps := 2000000) -implicitDefEqProofs [b2, c2, hy3_5]
  refine EV.seq ?_
  refine EV.drawG tabOK mixedOK ?_ -- region 4
  simp (maxSteps := 2000000) -implicitDefEqProofs [b2, c2, hy3_5]
  refine callG_fun (w_mTypes y3_5.fields (by first | assumption | exact hs.sf _ (by assumption) | exact hs.fp _ (by assumption))) ?_ ?_
  ·first | (simp; done) | (simp [b2, c2, hy3_5]; done)
  simp (maxSteps := 2000000) -implicitDefEqProofs [b2, c2, hy3_5]
  refine And.intro ?_ ?_
  ·first | decide +kernel | (simp -implicitDefEqProofs; decide +kernel) | (split <;> decide +kernel)
  try simp -implicitDefEqProofs
  refine EV.ret ?_
  simp only [thenK_ret, blockK_ret, scopeK_ret, bodyK_ret]
  subst e
  refine Fin.data ?_ ?_
  ·simp [convV, conv1, conv0, cvOb, allP, allR, c0, Pu, take_len_map, List.getD, List.range_succ]
  ·simp [List.range_succ]
 ·try simp at k1
  obtain ⟨f1, e⟩ := neg_on2 e (by first | simpa using k1 | grind)
  try simp at f1
  refine EV.seq ?_
  refine EV.regionG tabOK ?_ -- region 5
  simp (maxSteps := 2000000) -implicitDefEqProofs
  refine EV.condT ?_
  simp -implicitDefEqProofs
  refine condT_intro (fun k3 => ?_) (fun k3 => ?_)
  ·try simp at k3
   obtain ⟨f3, e⟩ := pos_on2 e (by first | simpa using k3 | grind)
   try simp at f3
   refine EV.seq ?_
   obtain ⟨y6_5, gy6_5⟩ : ∃ z, (p0.s.fns.getD ((p1.which).toNat) default) = z := ⟨_, rfl⟩
   replace e := bnd_on e gy6_5
   try dsimp only at e
   have b4 : 0 ≤ p1.which ∧ p1.which < (p0.s.fns.length : Int) := by (first | omega | (have q10 := h10 (by assumption); omega) | (have q12 := h12 (by assumption); omega) | (have q11 := h11 (by assumption); first | omega | (simp_all; omega) | (simp_all)))
   have c4 : (p1.which).toNat < p0.s.fns.length := by omega
   have hy6_5 : p0.s.fns[(p1.which).toNat] = y6_5 := by rw [← gy6_5, List.getD_eq_getElem?_getD, List.getElem?_eq_getElem c4]; rfl
   have my6_5 : y6_5 ∈ p0.s.fns := by rw [← hy6_5]; exact List.getElem_mem _
   refine EV.regionG tabOK ?_ -- region 6
   simp (maxSteps := 2000000) -implicitDefEqProofs [b4, c4, hy6_5]
   refine EV.seq ?_
   refine EV.drawG tabOK mixedOK ?_ -- region 7
   simp (maxSteps := 2000000) -implicitDefEqProofs [b4, c4, hy6_5]
   refine callG_fun (w_mTypes y6_5.params (by first | assumption | exact hs.sf _ (by assumption) | exact hs.fp _ (by assumption))) ?_ ?_
   ·first | (simp; done) | (simp [b4, c4, hy6_5]; done)
   simp (maxSteps := 2000000) -implicitDefEqProofs [b4, c4, hy6_5]
   refine And.intro ?_ ?_
   ·first | decide +kernel | (simp -implicitDefEqProofs; decide +kernel) | (split <;> decide +kernel)
   try simp -implicitDefEqProofs
   refine EV.ret ?_
   simp only [thenK_ret, blockK_ret, scopeK_ret, bodyK_ret]
   subst e
   refine Fin.data ?_ ?_
   ·simp [convV, conv1, conv0, cvOb, allP, allR, c0, Pu, take_len_map, List.getD, List.range_succ]
   ·simp [List.range_succ]
  ·try simp at k3
   obtain ⟨f3, e⟩ := neg_on2 e (by first | simpa using k3 | grind)
   try simp at f3
   refine EV.seq ?_
   refine EV.regionG tabOK ?_ -- region 8
   simp (maxSteps := 2000000) -implicitDefEqProofs
   refine EV.condT ?_
   simp -implicitDefEqProofs
   refine condT_intro (fun k5 => ?_) (fun k5 => ?_)
   ·try simp at k5
    obtain ⟨f5, e⟩ := pos_on2 e (by first | simpa using k5 | grind)
    try simp at f5
    refine EV.seq ?_
    obtain ⟨y9_5, gy9_5⟩ : ∃ z, (p0.s.enums.getD ((p1.which).toNat) default) = z := ⟨_, rfl⟩
    replace e := bnd_on e gy9_5
    try dsimp only at e
    have b6 : 0 ≤ p1.which ∧ p1.which < (p0.s.enums.length : Int) := by (first | omega | (have q10 := h10 (by assumption); omega) | (have q12 := h12 (by assumption); omega) | (have q11 := h11 (by assumption); first | omega | (simp_all; omega) | (simp_all)))
    have c6 : (p1.which).toNat < p0.s.enums.length := by omega
    have hy9_5 : p0.s.enums[(p1.which).toNat] = y9_5 := by rw [← gy9_5, List.getD_eq_getElem?_getD, List.getElem?_eq_getElem c6]; rfl
    have my9_5 : y9_5 ∈ p0.s.enums := by rw [← hy9_5]; exact List.getElem_mem _
    refine EV.regionG tabOK ?_ -- region 9
    simp (maxSteps := 2000000) -implicitDefEqProofs [b6, c6, hy9_5]
    refine EV.seq ?_
    refine EV.regionG tabOK ?_ -- region 10
    simp (maxSteps := 2000000) -implicitDefEqProofs [b6, c6, hy9_5]
    refine EV.seq ?_
    refine EV.seq ?_
    obtain ⟨y11_4, gy11_4⟩ : ∃ z, (y9_5.variants.getD ((p1.tag).toNat) default) = z := ⟨_, rfl⟩
    replace e := bnd_on e gy11_4
    try dsimp only at e
    have b7 : 0 ≤ p1.tag ∧ p1.tag < (y9_5.variants.length : Int) := by (first | omega | (have q10 := h10 (by assumption); omega) | (have q12 := h12 (by assumption); omega) | (have q11 := h11 (by assumption); first | omega | (simp_all; omega) | (simp_all)))
    have c7 : (p1.tag).toNat < y9_5.variants.length := by omega
    have hy11_4 : y9_5.variants[(p1.tag).toNat] = y11_4 := by rw [← gy11_4, List.getD_eq_getElem?_getD, List.getElem?_eq_getElem c7]; rfl
    have my11_4 : y11_4 ∈ y9_5.variants := by rw [← hy11_4]; exact List.getElem_mem _
    refine EV.regionG tabOK ?_ -- region 11
    simp (maxSteps := 2000000) -implicitDefEqProofs [b6, c6, hy9_5, b7, c7, hy11_4]
    refine EV.seq ?_
    refine EV.regionG tabOK ?_ -- region 12
    simp (maxSteps := 2000000) -implicitDefEqProofs [b6, c6, hy9_5, b7, c7, hy11_4]
    refine EV.condT ?_
    simp -implicitDefEqProofs [b6, c6, hy9_5, b7, c7, hy11_4]
    refine condT_intro (fun k8 => ?_) (fun k8 => ?_)
    ·try simp at k8
     obtain ⟨f8, e⟩ := pos_on2 e (by first | simpa using k8 | grind)
     try simp at f8
     refine EV.seq ?_
     refine EV.drawG tabOK mixedOK ?_ -- region 13
     simp (maxSteps := 2000000) -implicitDefEqProofs [b6, c6, hy9_5, b7, c7, hy11_4]
     refine And.intro ?_ ?_
     ·first | decide +kernel | (simp -implicitDefEqProofs; decide +kernel) | (split <;> decide +kernel)
     try simp -implicitDefEqProofs
     refine EV.ret ?_
     simp only [thenK_ret, blockK_ret, scopeK_ret, bodyK_ret]
     subst e
     refine Fin.data ?_ ?_
     ·simp [convV, conv1, conv0, cvOb, allP, allR, c0, Pu, take_len_map, List.getD, List.range_succ]
     ·simp [List.range_succ]
    ·try simp at k8
     obtain ⟨f8, e⟩ := neg_on2 e (by first | simpa using k8 | grind)
     try simp at f8
     refine EV.skip ?_
     simp only [thenK_normal, blockK_normal, scopeK_normal]
     refine EV.seq ?_
     refine EV.regionG tabOK ?_ -- region 14
     simp (maxSteps := 2000000) -implicitDefEqProofs [b6, c6, hy9_5, b7, c7, hy11_4]
     refine EV.ret ?_
     simp only [thenK_ret, blockK_ret, scopeK_ret, bodyK_ret]
     subst e
     refine Fin.data ?_ ?_
     ·simp [convV, conv1, conv0, cvOb, allP, allR, c0, Pu, take_len_map, List.getD, List.range_succ]
     ·simp [List.range_succ]
   ·try simp at k5
    obtain ⟨f5, e⟩ := neg_on2 e (by first | simpa using k5 | grind)
    try simp at f5
    refine EV.skip ?_
    simp only [thenK_normal, blockK_normal, scopeK_normal]
    refine EV.seq ?_
    refine EV.regionG tabOK ?_ -- region 15
    simp (maxSteps := 2000000) -implicitDefEqProofs
    refine EV.seq ?_
    refine EV.drawG tabOK mixedOK ?_ -- region 16
    simp (maxSteps := 2000000) -implicitDefEqProofs
    refine And.intro ?_ ?_
    ·first | decide +kernel | (simp -implicitDefEqProofs; decide +kernel) | (split <;> decide +kernel)
    try simp -implicitDefEqProofs
    refine EV.ret ?_
    simp only [thenK_ret, blockK_ret, scopeK_ret, bodyK_ret]
    subst e
    refine Fin.data ?_ ?_
    ·simp [convV, conv1, conv0, cvOb, allP, allR, c0, Pu, take_len_map, List.getD, List.range_succ]
    ·simp [List.range_succ]

def mValue (p0 : MirBodyD) (p1 : ValueD) : TyD × Int :=
 (if ¬ ((mWhich p0 p1) = 0) then ((TyD.mk 0 ([] : List UInt8) ([])), (mWhich p0 p1)) else (bnd (if p1.k = 6 then true else (decide (p1.k = 7))) fun (v6 : Bool) => (if v6 = true then (((mRefers p0 p1).1), (mRefers p0 p1).2) else (if p1.k = 9 then (((mUnboxes p0 p1).1), (mUnboxes p0 p1).2) else (bnd (if p1.k = 13 then true else (if p1.k = 14 then true else (decide (p1.k = 15)))) fun (v11 : Bool) => (if v11 = true then ((TyD.mk 0 ([] : List UInt8) ([])), 80) else (if (p1.k < 0) ∨ (15 < p1.k) then ((TyD.mk 0 ([] : List UInt8) ([])), 80) else (if ¬ ((mEmpty p1.s) = true) then ((TyD.mk 0 ([] : List UInt8) ([])), 84) else (if (¬ (p1.k = 0)) ∧ (¬ (p1.k = 8)) then (if ¬ ((mUses p0 p1.uses ((mMade p0 p1).2)) = 0) then ((TyD.mk 0 ([] : List UInt8) ([])), (mUses p0 p1.uses ((mMade p0 p1).2))) else (((mMade p0 p1).1), 0)) else (if ¬ ((p1.uses.length : Int) = 1) then ((TyD.mk 0 ([] : List UInt8) ([])), 81) else (bnd (p1.uses.getD 0 default) fun (y26_3 : UseD) => (if ¬ ((mUse p0 y26_3).2 = 0) then ((TyD.mk 0 ([] : List UInt8) ([])), (mUse p0 y26_3).2) else (if p1.k = 0 then (((mUse p0 y26_3).1), 0) else (if (kHolds ((mUse p0 y26_3).1)) = true then ((TyD.mk 0 ([] : List UInt8) ([])), 73) else ((TyD.mk 4 ([] : List UInt8) ([((mUse p0 y26_3).1)] : List TyD)), 0)))))))))))))))
set_option maxHeartbeats 40000000 in
theorem w_mValue (p0 : MirBodyD) (p1 : ValueD) (hs : SrcOK p0.s) : QC prog 27 [.agg [.ro 4 (p0.s.structs.map structC), .ro 3 (p0.s.enums.map enumC), .ro 4 (p0.s.fns.map fnC), .s p0.b.name, .i .i64 p0.b.params, .ro 4 (p0.b.locals.map localC), .ro 17 (p0.b.blocks.map blockC)], .agg [.i .i64 p1.k, .ro 5 (p1.uses.map useC), .i .i64 p1.s.local_, .ro 1 (p1.s.path.map (fun z => [.i .i64 z])), .i .i64 p1.which, .i .i64 p1.tag]] [] (.tup [.agg [.i .i64 (((mValue p0 p1).1).k), .s (((mValue p0 p1).1).name), .ro 3 ((((mValue p0 p1).1).l).map tyC)], .i .i64 ((mValue p0 p1).2)]) [] := by
 refine QC.of_body tabOK func27 rfl (by kernel_rfl) ?_
 simp only [f27]
 generalize e : mValue p0 p1 = R
 unfold mValue at e
 refine EV.seq ?_
 refine EV.regionG tabOK ?_ -- region 0
 simp (maxSteps := 2000000) -implicitDefEqProofs
 refine EV.seq ?_
 refine EV.seq ?_
 refine EV.regionG tabOK ?_ -- region 1
 simp (maxSteps := 2000000) -implicitDefEqProofs
 refine callG_fun (w_mWhich p0 p1) ?_ ?_
 ·simp
 simp (maxSteps := 2000000) -implicitDefEqProofs
 refine EV.seq ?_
 refine EV.regionG tabOK ?_ -- region 2
 simp (maxSteps := 2000000) -implicitDefEqProofs
 refine EV.condT ?_
 simp -implicitDefEqProofs
 refine condT_intro (fun k1 => ?_) (fun k1 => ?_)
 ·try simp at k1
  obtain ⟨f1, e⟩ := pos_on2 e (by first | simpa using k1 | grind)
  try simp at f1
  refine EV.seq ?_
  refine EV.regionG tabOK ?_ -- region 3
  simp (maxSteps := 2000000) -implicitDefEqProofs
  refine EV.ret ?_
  simp only [thenK_ret, blockK_ret, scopeK_ret, bodyK_ret]
  subst e
  refine Fin.data ?_ ?_
  ·simp [convV, conv1, conv0, cvOb, allP, allR, c0, Pu, take_len_map, List.getD, List.range_succ]
  ·simp [List.range_succ]
 ·try simp at k1
  obtain ⟨f1, e⟩ := neg_on2 e (by first | simpa using k1 | grind)
  try simp at f1
  refine EV.skip ?_
  simp only [thenK_normal, blockK_normal, scopeK_normal]
  refine EV.seq ?_
  refine EV.seq ?_
  refine EV.regionG tabOK ?_ -- region 4
  simp (maxSteps := 2000000) -implicitDefEqProofs
  refine EV.block ?_
  refine EV.seq ?_
  refine EV.seq ?_
  refine EV.regionG tabOK ?_ -- region 5
  simp (maxSteps := 2000000) -implicitDefEqProofs
  obtain ⟨z6, e6, e⟩ := bnd_split e
  refine EV.nrm (fun v : { v : (Bool) × (Unit) // z6 = v.1 } => (fun (v6 : Bool) (g6 : Unit) => (⟨[J, J, .ptr 0 0 0 0, .ptr 1 0 0 0, .ptr 2 0 0 0, J, J, J, J, J, J, J, J, J, J, J, J, J, J, J, .i .i64 p1.k, .b v6, J, J, J, J, J, J, J, J, J, J, J, J, J, J, J, J, J, J, J, J, J, J, J, J, J, J, J, J, J, J, J, J, J, J, J, J, J, J, J, J, J, J, J, J, J, J, J, J, J, J, J, J, J, J, J, J, J, J, J, J, J, J, J, J, J, J, J, J, J, J, J, J, J, J, J, J, J, J, J, J, J, J, J, J, J, J, J, J, J, J, J, J], [.arr 0 7 [[.ro 4 (p0.s.structs.map structC), .ro 3 (p0.s.enums.map enumC), .ro 4 (p0.s.fns.map fnC), .s p0.b.name, .i .i64 p0.b.params, .ro 4 (p0.b.locals.map localC), .ro 17 (p0.b.blocks.map blockC)]], .arr 0 6 [[.i .i64 p1.k, .ro 5 (p1.uses.map useC), .i .i64 p1.s.local_, .ro 1 (p1.s.path.map (fun z => [.i .i64 z])), .i .i64 p1.which, .i .i64 p1.tag]], .arr 0 3 [[.i .i64 0, .s ([] : List UInt8), .c (.slice none 0 0)]]]⟩ : St)) v.1.1 v.1.2) ?_ ?_
  ·skip
   refine EV.condT ?_
   simp -implicitDefEqProofs
   refine condT_intro (fun k2 => ?_) (fun k2 => ?_)
   ·try simp at k2
    obtain ⟨f2, e6⟩ := pos_on2 e6 (by first | simpa using k2 | grind)
    try simp at f2
    refine EV.skip ?_
    simp only [thenK_normal, blockK_normal, scopeK_normal]
    refine ⟨⟨(true, ()), e6.symm⟩, ?_⟩
    try dsimp only
    refine Sub.cutF 3 (by simp) ?_ ?_ <;> simp [List.range_succ, toIdx_range, passed]
   ·try simp at k2
    obtain ⟨f2, e6⟩ := neg_on2 e6 (by first | simpa using k2 | grind)
    try simp at f2
    refine EV.regionG tabOK ?_ -- region 6
    simp (maxSteps := 2000000) -implicitDefEqProofs
    refine ⟨⟨((decide (p1.k = 7)), ()), e6.symm⟩, ?_⟩
    try dsimp only
    refine Sub.cutF 3 (by simp) ?_ ?_ <;> simp [List.range_succ, toIdx_range, passed]
  ·skip
   rintro ⟨⟨v6, g6⟩, e6⟩
   simp only [thenK_normal, blockK_normal, scopeK_normal, bodyK_normal]
   replace e := bnd_on e e6
   try dsimp only at e
   refine EV.condT ?_
   simp -implicitDefEqProofs
   refine condT_intro (fun k3 => ?_) (fun k3 => ?_)
   ·try simp at k3
    obtain ⟨f3, e⟩ := pos_on2 e (by first | simpa using k3 | grind)
    try simp at f3
    refine EV.seq ?_
    refine EV.regionG tabOK ?_ -- region 7
    simp (maxSteps := 2000000) -implicitDefEqProofs
    refine callG_fun (w_mRefers p0 p1) ?_ ?_
    ·simp
    simp (maxSteps := 2000000) -implicitDefEqProofs
    refine EV.ret ?_
    simp only [thenK_ret, blockK_ret, scopeK_ret, bodyK_ret]
    subst e
    refine Fin.pure0 ?_
    first | (simp; done) | (simp <;> grind)
   ·try simp at k3
    obtain ⟨f3, e⟩ := neg_on2 e (by first | simpa using k3 | grind)
    try simp at f3
    refine EV.seq ?_
    refine EV.regionG tabOK ?_ -- region 8
    simp (maxSteps := 2000000) -implicitDefEqProofs
    refine EV.condT ?_
    simp -implicitDefEqProofs
    refine condT_intro (fun k4 => ?_) (fun k4 => ?_)
    ·try simp at k4
     obtain ⟨f4, e⟩ := pos_on2 e (by first | simpa using k4 | grind)
     try simp at f4
     refine EV.seq ?_
     refine EV.regionG tabOK ?_ -- region 9
     simp (maxSteps := 2000000) -implicitDefEqProofs
     refine callG_fun (w_mUnboxes p0 p1) ?_ ?_
     ·simp
     simp (maxSteps := 2000000) -implicitDefEqProofs
     refine EV.ret ?_
     simp only [thenK_ret, blockK_ret, scopeK_ret, bodyK_ret]
     subst e
     refine Fin.pure0 ?_
     first | (simp; done) | (simp <;> grind)
    ·try simp at k4
     obtain ⟨f4, e⟩ := neg_on2 e (by first | simpa using k4 | grind)
     try simp at f4
     refine EV.seq ?_
     refine EV.seq ?_
     refine EV.regionG tabOK ?_ -- region 10
     simp (maxSteps := 2000000) -implicitDefEqProofs
     obtain ⟨z11, e11, e⟩ := bnd_split e
     refine EV.nrm (fun v : { v : (Bool) × (Unit) // z11 = v.1 } => (fun (v11 : Bool) (g11 : Unit) => (⟨[J, J, .ptr 0 0 0 0, .ptr 1 0 0 0, .ptr 2 0 0 0, J, J, J, J, J, J, J, J, J, J, J, J, J, J, J, J, J, J, J, J, J, J, J, J, J, J, J, J, J, J, J, .b v11, J, J, J, J, J, J, J, J, J, J, J, J, J, J, J, J, J, J, J, J, J, J, J, J, J, J, J, J, J, J, J, J, J, J, J, J, J, J, J, J, J, J, J, J, J, J, J, J, J, J, J, J, J, J, J, J, J, J, J, J, J, J, J, J, J, J, J, J, J, J, J, J, J, J, J, J, J], [.arr 0 7 [[.ro 4 (p0.s.structs.map structC), .ro 3 (p0.s.enums.map enumC), .ro 4 (p0.s.fns.map fnC), .s p0.b.name, .i .i64 p0.b.params, .ro 4 (p0.b.locals.map localC), .ro 17 (p0.b.blocks.map blockC)]], .arr 0 6 [[.i .i64 p1.k, .ro 5 (p1.uses.map useC), .i .i64 p1.s.local_, .ro 1 (p1.s.path.map (fun z => [.i .i64 z])), .i .i64 p1.which, .i .i64 p1.tag]], .arr 0 3 [[.i .i64 0, .s ([] : List UInt8), .c (.slice none 0 0)]]]⟩ : St)) v.1.1 v.1.2) ?_ ?_
     ·skip
      refine EV.condT ?_
      simp -implicitDefEqProofs
      refine condT_intro (fun k5 => ?_) (fun k5 => ?_)
      ·try simp at k5
       obtain ⟨f5, e11⟩ := pos_on2 e11 (by first | simpa using k5 | grind)
       try simp at f5
       refine EV.skip ?_
       simp only [thenK_normal, blockK_normal, scopeK_normal]
       refine ⟨⟨(true, ()), e11.symm⟩, ?_⟩
       try dsimp only
       refine Sub.cutF 3 (by simp) ?_ ?_ <;> simp [List.range_succ, toIdx_range, passed]
      ·try simp at k5
       obtain ⟨f5, e11⟩ := neg_on2 e11 (by first | simpa using k5 | grind)
       try simp at f5
       refine EV.seq ?_
       refine EV.regionG tabOK ?_ -- region 11
       simp (maxSteps := 2000000) -implicitDefEqProofs
       refine EV.condT ?_
       simp -implicitDefEqProofs
       refine condT_intro (fun k6 => ?_) (fun k6 => ?_)
       ·try simp at k6
        obtain ⟨f6, e11⟩ := pos_on2 e11 (by first | simpa using k6 | grind)
        try simp at f6
        refine EV.skip ?_
        simp only [thenK_normal, blockK_normal, scopeK_normal]
        refine ⟨⟨(true, ()), e11.symm⟩, ?_⟩
        try dsimp only
        refine Sub.cutF 3 (by simp) ?_ ?_ <;> simp [List.range_succ, toIdx_range, passed]
       ·try simp at k6
        obtain ⟨f6, e11⟩ := neg_on2 e11 (by first | simpa using k6 | grind)
        try simp at f6
        refine EV.regionG tabOK ?_ -- region 12
        simp (maxSteps := 2000000) -implicitDefEqProofs
        refine ⟨⟨((decide (p1.k = 15)), ()), e11.symm⟩, ?_⟩
        try dsimp only
        refine Sub.cutF 3 (by simp) ?_ ?_ <;> simp [List.range_succ, toIdx_range, passed]
     ·skip
      rintro ⟨⟨v11, g11⟩, e11⟩
      simp only [thenK_normal, blockK_normal, scopeK_normal, bodyK_normal]
      replace e := bnd_on e e11
      try dsimp only at e
      refine EV.condT ?_
      simp -implicitDefEqProofs
      refine condT_intro (fun k7 => ?_) (fun k7 => ?_)
      ·try simp at k7
       obtain ⟨f7, e⟩ := pos_on2 e (by first | simpa using k7 | grind)
       try simp at f7
       refine EV.seq ?_
       refine EV.regionG tabOK ?_ -- region 13
       simp (maxSteps := 2000000) -implicitDefEqProofs
       refine EV.ret ?_
       simp only [thenK_ret, blockK_ret, scopeK_ret, bodyK_ret]
       subst e
       refine Fin.data ?_ ?_
       ·simp [convV, conv1, conv0, cvOb, allP, allR, c0, Pu, take_len_map, List.getD, List.range_succ]
       ·simp [List.range_succ]
      ·try simp at k7
       obtain ⟨f7, e⟩ := neg_on2 e (by first | simpa using k7 | grind)
       try simp at f7
       refine EV.skip ?_
       simp only [thenK_normal, blockK_normal, scopeK_normal]
       refine EV.seq ?_
       refine EV.block ?_
       refine EV.seq ?_
       refine EV.regionG tabOK ?_ -- region 14
       simp (maxSteps := 2000000) -implicitDefEqProofs +contextual
       refine EV.condT ?_
       simp -implicitDefEqProofs
       refine condT_intro (fun k8 => ?_) (fun k8 => ?_)
       ·try simp at k8
        obtain ⟨f8, e⟩ := pos_on2 e (by first | simpa using k8 | grind)
        try simp at f8
        refine EV.seq ?_
        refine EV.regionG tabOK ?_ -- region 15
        simp (maxSteps := 2000000) -implicitDefEqProofs
        refine EV.ret ?_
        simp only [thenK_ret, blockK_ret, scopeK_ret, bodyK_ret]
        subst e
        refine Fin.data ?_ ?_
        ·simp [convV, conv1, conv0, cvOb, allP, allR, c0, Pu, take_len_map, List.getD, List.range_succ]
        ·simp [List.range_succ]
       ·try simp at k8
        obtain ⟨f8, e⟩ := neg_on2 e (by first | simpa using k8 | grind)
        try simp at f8
        refine EV.seq ?_
        refine EV.regionG tabOK ?_ -- region 16
        simp (maxSteps := 2000000) -implicitDefEqProofs
        refine callG_fun (w_mEmpty p1.s) ?_ ?_
        ·simp
        simp (maxSteps := 2000000) -implicitDefEqProofs
        refine EV.condT ?_
        simp -implicitDefEqProofs
        refine condT_intro (fun k9 => ?_) (fun k9 => ?_)
        ·try simp at k9
         obtain ⟨f9, e⟩ := pos_on2 e (by first | simpa using k9 | grind)
         try simp at f9
         refine EV.seq ?_
         refine EV.regionG tabOK ?_ -- region 17
         simp (maxSteps := 2000000) -implicitDefEqProofs
         refine EV.ret ?_
         simp only [thenK_ret, blockK_ret, scopeK_ret, bodyK_ret]
         subst e
         refine Fin.data ?_ ?_
         ·simp [convV, conv1, conv0, cvOb, allP, allR, c0, Pu, take_len_map, List.getD, List.range_succ]
         ·simp [List.range_succ]
        ·try simp at k9
         obtain ⟨f9, e⟩ := neg_on2 e (by first | simpa using k9 | grind)
         try simp at f9
         refine EV.seq ?_
         refine EV.regionG tabOK ?_ -- region 18
         simp (maxSteps := 2000000) -implicitDefEqProofs +contextual
         refine EV.condT ?_
         simp -implicitDefEqProofs
         refine condT_intro (fun k10 => ?_) (fun k10 => ?_)
         ·try simp at k10
          obtain ⟨f10, e⟩ := pos_on2 e (by first | simpa using k10 | grind)
          try simp at f10
          refine EV.seq ?_
          refine EV.regionG tabOK ?_ -- region 19
          simp (maxSteps := 2000000) -implicitDefEqProofs
          refine callG_fun (w_mMade p0 p1 hs (mWhich_ok _ _ (by assumption)).1 (mWhich_ok _ _ (by assumption)).2.1 (mWhich_ok _ _ (by assumption)).2.2) ?_ ?_
          ·simp
          simp (maxSteps := 2000000) -implicitDefEqProofs
          refine EV.seq ?_
          refine EV.seq ?_
          refine EV.regionG tabOK ?_ -- region 20
          simp (maxSteps := 2000000) -implicitDefEqProofs
          refine callG_fun (w_mUses p0 p1.uses ((mMade p0 p1).2)) ?_ ?_
          ·simp
          simp (maxSteps := 2000000) -implicitDefEqProofs
          refine EV.seq ?_
          refine EV.regionG tabOK ?_ -- region 21
          simp (maxSteps := 2000000) -implicitDefEqProofs
          refine EV.condT ?_
          simp -implicitDefEqProofs
          refine condT_intro (fun k11 => ?_) (fun k11 => ?_)
          ·try simp at k11
           obtain ⟨f11, e⟩ := pos_on2 e (by first | simpa using k11 | grind)
           try simp at f11
           refine EV.seq ?_
           refine EV.regionG tabOK ?_ -- region 22
           simp (maxSteps := 2000000) -implicitDefEqProofs
           refine EV.ret ?_
           simp only [thenK_ret, blockK_ret, scopeK_ret, bodyK_ret]
           subst e
           refine Fin.data ?_ ?_
           ·simp [convV, conv1, conv0, cvOb, allP, allR, c0, Pu, take_len_map, List.getD, List.range_succ]
           ·simp [List.range_succ]
          ·try simp at k11
           obtain ⟨f11, e⟩ := neg_on2 e (by first | simpa using k11 | grind)
           try simp at f11
           refine EV.skip ?_
           simp only [thenK_normal, blockK_normal, scopeK_normal]
           refine EV.seq ?_
           refine EV.regionG tabOK ?_ -- region 23
           simp (maxSteps := 2000000) -implicitDefEqProofs
           refine EV.ret ?_
           simp only [thenK_ret, blockK_ret, scopeK_ret, bodyK_ret]
           subst e
           refine Fin.pure0 ?_
           first | (simp; done) | (simp <;> grind)
         ·try simp at k10
          obtain ⟨f10, e⟩ := neg_on2 e (by first | simpa using k10 | grind)
          try simp at f10
          refine EV.seq ?_
          refine EV.regionG tabOK ?_ -- region 24
          simp (maxSteps := 2000000) -implicitDefEqProofs
          refine EV.condT ?_
          simp -implicitDefEqProofs
          refine condT_intro (fun k12 => ?_) (fun k12 => ?_)
          ·try simp at k12
           obtain ⟨f12, e⟩ := pos_on2 e (by first | simpa using k12 | grind)
           try simp at f12
           refine EV.seq ?_
           refine EV.regionG tabOK ?_ -- region 25
           simp (maxSteps := 2000000) -implicitDefEqProofs
           refine EV.ret ?_
           simp only [thenK_ret, blockK_ret, scopeK_ret, bodyK_ret]
           subst e
           refine Fin.data ?_ ?_
           ·simp [convV, conv1, conv0, cvOb, allP, allR, c0, Pu, take_len_map, List.getD, List.range_succ]
           ·simp [List.range_succ]
          ·try simp at k12
           obtain ⟨f12, e⟩ := neg_on2 e (by first | simpa using k12 | grind)
           try simp at f12
           refine EV.skip ?_
           simp only [thenK_normal, blockK_normal, scopeK_normal]
           refine EV.seq ?_
           obtain ⟨y26_3, gy26_3⟩ : ∃ z, (p1.uses.getD 0 default) = z := ⟨_, rfl⟩
           replace e := bnd_on e gy26_3
           try dsimp only at e
           have b13 : 0 ≤ 0 ∧ 0 < (p1.uses.length : Int) := by omega
           have c13 : 0 < p1.uses.length := by omega
           have hy26_3 : p1.uses[0] = y26_3 := by rw [← gy26_3, List.getD_eq_getElem?_getD, List.getElem?_eq_getElem c13]; rfl
           have my26_3 : y26_3 ∈ p1.uses := by rw [← hy26_3]; exact List.getElem_mem _
           refine EV.drawG tabOK mixedOK ?_ -- region 26
           simp (maxSteps := 2000000) -implicitDefEqProofs [b13, c13, hy26_3]
           refine callG_fun (w_mUse p0 y26_3) ?_ ?_
           ·first | (simp; done) | (simp [b13, c13, hy26_3]; done)
           simp (maxSteps := 2000000) -implicitDefEqProofs [b13, c13, hy26_3]
           refine And.intro ?_ ?_
           ·first | decide +kernel | (simp -implicitDefEqProofs; decide +kernel) | (split <;> decide +kernel)
           try simp -implicitDefEqProofs
           refine EV.seq ?_
           refine EV.block ?_
           refine EV.seq ?_
           refine EV.regionG tabOK ?_ -- region 27
           simp (maxSteps := 2000000) -implicitDefEqProofs [b13, c13, hy26_3]
           refine EV.condT ?_
           simp -implicitDefEqProofs [b13, c13, hy26_3]
           refine condT_intro (fun k14 => ?_) (fun k14 => ?_)
           ·try simp at k14
            obtain ⟨f14, e⟩ := pos_on2 e (by first | simpa using k14 | grind)
            try simp at f14
            refine EV.seq ?_
            refine EV.regionG tabOK ?_ -- region 28
            simp (maxSteps := 2000000) -implicitDefEqProofs [b13, c13, hy26_3]
            refine EV.ret ?_
            simp only [thenK_ret, blockK_ret, scopeK_ret, bodyK_ret]
            subst e
            refine Fin.data ?_ ?_
            ·simp [convV, conv1, conv0, cvOb, allP, allR, c0, Pu, take_len_map, List.getD, List.range_succ]
            ·simp [List.range_succ]
           ·try simp at k14
            obtain ⟨f14, e⟩ := neg_on2 e (by first | simpa using k14 | grind)
            try simp at f14
            refine EV.seq ?_
            refine EV.regionG tabOK ?_ -- region 29
            simp (maxSteps := 2000000) -implicitDefEqProofs [b13, c13, hy26_3]
            refine EV.condT ?_
            simp -implicitDefEqProofs [b13, c13, hy26_3]
            refine condT_intro (fun k15 => ?_) (fun k15 => ?_)
            ·try simp at k15
             obtain ⟨f15, e⟩ := pos_on2 e (by first | simpa using k15 | grind)
             try simp at f15
             refine EV.seq ?_
             refine EV.regionG tabOK ?_ -- region 30
             simp (maxSteps := 2000000) -implicitDefEqProofs [b13, c13, hy26_3]
             refine EV.ret ?_
             simp only [thenK_ret, blockK_ret, scopeK_ret, bodyK_ret]
             subst e
             refine Fin.pure0 ?_
             first | (simp; done) | (simp <;> grind)
            ·try simp at k15
             obtain ⟨f15, e⟩ := neg_on2 e (by first | simpa using k15 | grind)
             try simp at f15
             refine EV.seq ?_
             refine EV.regionG tabOK ?_ -- region 31
             simp (maxSteps := 2000000) -implicitDefEqProofs [b13, c13, hy26_3]
             refine callG_fun (w_kHolds ((mUse p0 y26_3).1)) ?_ ?_
             ·first | (simp; done) | (simp [b13, c13, hy26_3]; done)
             simp (maxSteps := 2000000) -implicitDefEqProofs [b13, c13, hy26_3]
             refine EV.condT ?_
             simp -implicitDefEqProofs [b13, c13, hy26_3]
             refine condT_intro (fun k16 => ?_) (fun k16 => ?_)
             ·try simp at k16
              obtain ⟨f16, e⟩ := pos_on2 e (by first | simpa using k16 | grind)
              try simp at f16
              refine EV.seq ?_
              refine EV.regionG tabOK ?_ -- region 32
              simp (maxSteps := 2000000) -implicitDefEqProofs [b13, c13, hy26_3]
              refine EV.ret ?_
              simp only [thenK_ret, blockK_ret, scopeK_ret, bodyK_ret]
              subst e
              refine Fin.data ?_ ?_
              ·simp [convV, conv1, conv0, cvOb, allP, allR, c0, Pu, take_len_map, List.getD, List.range_succ]
              ·simp [List.range_succ]
             ·try simp at k16
              obtain ⟨f16, e⟩ := neg_on2 e (by first | simpa using k16 | grind)
              try simp at f16
              refine EV.skip ?_
              simp only [thenK_normal, blockK_normal, scopeK_normal]
              refine EV.seq ?_
              refine EV.regionG tabOK ?_ -- region 33
              simp (maxSteps := 2000000) -implicitDefEqProofs [b13, c13, hy26_3]
              refine EV.ret ?_
              simp only [thenK_ret, blockK_ret, scopeK_ret, bodyK_ret]
              subst e
              refine Fin.data ?_ ?_
              ·simp [convV, conv1, conv0, cvOb, allP, allR, c0, Pu, take_len_map, List.getD, List.range_succ]
              ·simp [List.range_succ]


def mValueF (p0 : SourceD) (p1 : BodyD) (p2 : ValueD) : TyD × Int :=
 (((mValue (MirBodyD.mk p0 p1) p2).1), (mValue (MirBodyD.mk p0 p1) p2).2)
set_option maxHeartbeats 40000000 in
theorem w_mValueF (p0 : SourceD) (p1 : BodyD) (p2 : ValueD) (hs : SrcOK p0) : QC prog 13 [.agg [.ro 4 (p0.structs.map structC), .ro 3 (p0.enums.map enumC), .ro 4 (p0.fns.map fnC)], .agg [.s p1.name, .i .i64 p1.params, .ro 4 (p1.locals.map localC), .ro 17 (p1.blocks.map blockC)], .agg [.i .i64 p2.k, .ro 5 (p2.uses.map useC), .i .i64 p2.s.local_, .ro 1 (p2.s.path.map (fun z => [.i .i64 z])), .i .i64 p2.which, .i .i64 p2.tag]] [] (.tup [.agg [.i .i64 (((mValueF p0 p1 p2).1).k), .s (((mValueF p0 p1 p2).1).name), .ro 3 ((((mValueF p0 p1 p2).1).l).map tyC)], .i .i64 ((mValueF p0 p1 p2).2)]) [] := by
 refine QC.of_body tabOK func13 rfl (by kernel_rfl) ?_
 simp only [f13]
 generalize e : mValueF p0 p1 p2 = R
 unfold mValueF at e
 refine EV.seq ?_
 refine EV.regionG tabOK ?_ -- region 0
 simp (maxSteps := 2000000) -implicitDefEqProofs
 refine EV.seq ?_
 refine EV.regionG tabOK ?_ -- region 1
 simp (maxSteps := 2000000) -implicitDefEqProofs
 refine callG_fun (w_mValue (MirBodyD.mk p0 p1) p2 hs) ?_ ?_
 ·simp
 simp (maxSteps := 2000000) -implicitDefEqProofs
 refine EV.ret ?_
 simp only [thenK_ret, blockK_ret, scopeK_ret, bodyK_ret]
 subst e
 refine Fin.pure0 ?_
 first | (simp; done) | (simp <;> grind)
end
end Go.Proofs.Tryd
end
