/- What is valid stays so behind a block more that nothing goes to, and without any step: MirMore, tied. No conditions. -/
import Derived.Test.YtakfpmogpnoibaaDoorTie
import Derived.Test.YtakfpmogpnoibaaDoorCards
import Derived.ProofKit
import Derived.OpenShut
import Derived.LaidMore
import Derived.Lay
import Derived.SevenTiedAt
import Derived.Stop.Joined
import Derived.Stop.LaidErr
import Derived.Test.YtakfpmogpnoibaaDoorMirD
import Derived.Test.YtakfpmogpnoibaaDoorSizA
import Derived.Test.YtakfpmogpnoibaaDoorBldA
import Derived.Test.YtakfpmogpnoibaaDoorMachD
import Derived.Test.YtakfpmogpnoibaaDoorRefA
set_option linter.unusedVariables false
set_option linter.unusedSimpArgs false
set_option linter.constructorNameAsVariable false
section
namespace Go.Proofs.Tryd
open Go Go.AM
attribute [local simp] wpG_op wpG_nil contG_some wpG_guard guardG_v guardG_o guardG_tup gval pureOp stepG_if isPick pickG_pick pickB_b pickOK isCall step_move step_assign step_alloc step_box boxV_some step_load step_store step_binOp step_unOp step_fieldAddr faV step_indexAddr ixA_slc ixA_arr step_extract extV_tup step_nilCheck ncV_ptr ncV_rp ncV_fn ncV_mp step_build buildV step_buildSlice bsV step_index ixV_arr ixV_str step_append apB step_makeSlice msV_i step_makeFunc over step_len step_makeMap mmV step_mapUpdate step_insert muA_map muB_mp step_lookup lkA_map lkB_mp step_slice slcV_s slcV_sl slcV_ro cutB_some slObV_arr bound_none bound_some bndV_i lenB_str lenB_ro lenB_sl lenB_nil lenB_z ld_ptr ld_rp offV_ptr offV_rp idxV_ro idxV_sl unV_not unV_neg binV_int binV_str binV_eqlb binV_neqb intOp strOp St.put updL setOb St.ev toV St.lk cellsOf AM.valOf TK.agg stv fillV places TI.zero condT_true condT_false finS resL resSlot packV ren ren1 ren0 Value.cells builtinV appendV elemsOf keepT room_of wrap_in toIdx passed Function.comp_def take_len_map lenV touchOf hid tab1 tab2 tab3 tab4 tab5 tab6 tab7 tab8 tab9 tab10 tab11 tab12 tab13 tab14 tab15 tab16 tab17 tab18 tab19 tab20 tab21 tab22 tab23 tab24 tab25 tab26 tab27 tab28 tab29 tab30 tab31 tab32 tab33 tab34 tab35 tab36 tab37 tab38 tab39 tab40 tab41 tab42 tab43 tab44 tab45 tab46 tab47 tab48 tab49 tab50 tab51 tab52 tab53 tab54 tab55 tab57 tab58 tab59 tab61 tab62 tab63 tab64 tab65 tab66 tab67 tab68 tab69 tab70 tab71 tab72 tab73 tab74 tab75 tab76 tab77 tab78 tab79 tab80 tab81 tab82 tab83 tab84 tab85 tab86 tab87 tab88 tab89 tab90 tab91 tab92 tab93 tab94 tab95 tab96 tab97 tab98 tab99 tab100 tab101 tab103 tab104 tab105 tab106 tab107 tab108 tab109 tab110 tab111 tab112 tab113 tab114 tab115 tab116 tab117 tab118 tab119 tab120 tab121 tab122 tab123 tab124 tab125 tab126 tab127 tab128 tab129 tab130 tab131 tab132 tab133 tab135 tab137 tab138 tab140 tab141 tab142 tab143 tab144 tab145 tab146 tab147 tab148 tab149 tab150 tab151 tab152 tab153 tab155 tab156 tab157 tab158 tab159 tab160 tab161 tab162 tab163 tab164 tab165 tab166 tab167 tab168 tab170 tab171 tab172 tab173 tab174 tab175 tab176 tab177 tab178 tab179 tab180 tab181 tab182 tab186 tab187 tab188 tab189 tab190 tab191 tab192 tab193 tab194 tab195 armC_eq blockC_eq bodyC_eq enumC_eq fieldC_eq fnC_eq inC_eq localC_eq mirBodyC_eq operC_eq placeC_eq rvC_eq sourceC_eq spotC_eq stepC_eq stmtC_eq structC_eq tmC_eq tyC_eq useC_eq valueC_eq variantC_eq cutL_nil cutL_junk cutL_cons ren_arr ren_gone ren_unborn ren_var ren_row step_convert cvV_i cvV_sl cvV_s cvK_slc cvE_u8 bytesOf bor1 bor2 bor3 bor4
set_option linter.unusedSimpArgs false
set_option linter.unusedVariables false
set_option maxRecDepth 10000
set_option maxHeartbeats 4000000
noncomputable section

def lMirMore (p0 : SourceD) (p1 : BodyD) (p2 : Int) (p3 : Int) : Bool :=
  (if ((((zLarge p0 250) = true) ∨ ((zOver p1 250) = true)) ∨ ((p1.blocks.length : Int) = 0)) ∨ ((p1.locals.length : Int) = 0) then true else (if ((mValid p0 p1) = true) ∧ (¬ ((mValid p0 (BodyD.mk p1.name p1.params p1.locals (p1.blocks ++ ([(BlockD.mk ([]) (TmD.mk 3 0 (SpotD.mk 0 ([])) (ValueD.mk 0 ([]) (SpotD.mk 0 ([])) 0 0) (UseD.mk true 0 false (SpotD.mk 0 ([]))) ([])))] : List BlockD)))) = true)) then false else (bnd (p1.blocks.getD ((p2).toNat) default) fun (y14_22 : BlockD) => (if ((((¬ ((mValid p0 p1) = true)) ∨ (p2 < 0)) ∨ ((p1.blocks.length : Int) ≤ p2)) ∨ (p3 < 0)) ∨ ((y14_22.ins.length : Int) ≤ p3) then true else (mValid p0 (BodyD.mk p1.name p1.params p1.locals ((p1.blocks ++ ([(BlockD.mk ([]) (TmD.mk 3 0 (SpotD.mk 0 ([])) (ValueD.mk 0 ([]) (SpotD.mk 0 ([])) 0 0) (UseD.mk true 0 false (SpotD.mk 0 ([]))) ([])))] : List BlockD)).set ((p2).toNat) (BlockD.mk ((y14_22.ins.take ((p3).toNat)) ++ (y14_22.ins.drop (((IntKind.i64.wrap (p3 + 1))).toNat))) y14_22.end_))))))))
set_option maxHeartbeats 40000000 in
theorem w_lMirMore (p0 : SourceD) (p1 : BodyD) (p2 : Int) (p3 : Int) (hs : SrcOK p0) (hb : p1.blocks.length ≤ 606627104962) (hi : ∀ y ∈ p1.blocks, y.ins.length ≤ 764877654082) : QC prog 3 [.agg [.ro 4 (p0.structs.map structC), .ro 3 (p0.enums.map enumC), .ro 4 (p0.fns.map fnC)], .agg [.s p1.name, .i .i64 p1.params, .ro 4 (p1.locals.map localC), .ro 17 (p1.blocks.map blockC)], .i .i64 p2, .i .i64 p3] [] (.b (lMirMore p0 p1 p2 p3)) [] := by
  refine QC.of_body tabOK func3 rfl (by kernel_rfl) ?_
  simp only [f3]
  generalize e : lMirMore p0 p1 p2 p3 = R
  unfold lMirMore at e
  refine EV.seq ?_
  refine EV.regionG tabOK ?_ -- region 0
  simp (maxSteps := 2000000) -implicitDefEqProofs
  refine EV.seq ?_
  refine EV.regionG tabOK ?_ -- region 1
  simp (maxSteps := 2000000) -implicitDefEqProofs
  refine callG_fun (w_works09) ?_ ?_
  · simp
  simp (maxSteps := 2000000) -implicitDefEqProofs
  refine EV.seq ?_
  refine EV.seq ?_
  refine EV.regionG tabOK ?_ -- region 2
  simp (maxSteps := 2000000) -implicitDefEqProofs
  refine EV.condT ?_
  simp -implicitDefEqProofs
  refine EV.skip ?_
  simp only [thenK_normal, blockK_normal, scopeK_normal]
  refine EV.seq ?_
  refine EV.regionG tabOK ?_ -- region 4
  simp (maxSteps := 2000000) -implicitDefEqProofs
  refine callG_fun (w_zLarge p0 250) ?_ ?_
  · simp
  simp (maxSteps := 2000000) -implicitDefEqProofs
  refine EV.seq ?_
  refine EV.seq ?_
  refine EV.nrm (fun _ : Unit => (⟨[.junk, .junk, .i .i64 p2, .i .i64 p3, .ptr 0 0 0 0, .ptr 1 0 0 0, .junk, .junk, .junk, .b true, .junk, .junk, .junk, .junk, .junk, .junk, .junk, .junk, .junk, .junk, .junk, .junk, .junk, .junk, .junk, .junk, .junk, .junk, .junk, .junk, .junk, .junk, .junk, .junk, .junk, .b ((((zLarge p0 250) || (zOver p1 250)) || (decide ((p1.blocks.length : Int) = 0))) || (decide ((p1.locals.length : Int) = 0))), .junk, .junk, .junk, .junk, .junk, .junk, .junk, .junk, .junk, .junk, .junk, .junk, .junk, .junk, .junk, .junk, .junk, .junk, .junk, .junk, .junk, .junk, .junk, .junk, .junk, .junk, .junk, .junk, .junk, .junk, .junk, .junk, .junk, .junk, .junk, .junk, .junk, .junk, .junk, .junk, .junk, .junk, .junk, .junk, .junk, .junk, .junk, .junk, .junk, .junk, .junk, .junk, .junk, .junk, .junk, .junk, .junk, .junk, .junk, .junk, .junk, .junk, .junk, .junk, .junk, .junk, .junk, .junk, .junk, .junk, .junk, .junk, .junk, .junk, .junk, .junk, .junk, .junk, .junk, .junk, .junk, .junk, .junk, .junk, .junk, .junk, .junk, .junk, .junk, .junk, .junk, .junk, .junk, .junk, .junk], [.arr 0 3 [[.ro 4 (p0.structs.map structC), .ro 3 (p0.enums.map enumC), .ro 4 (p0.fns.map fnC)]], .arr 0 4 [[.s p1.name, .i .i64 p1.params, .ro 4 (p1.locals.map localC), .ro 17 (p1.blocks.map blockC)]]]⟩ : St)) ?_ ?_
  · skip
    cases k2 : (zLarge p0 250)
    · skip
      have kk2 := k2
      try simp at kk2
      refine EV.regionG tabOK ?_ -- region 5
      simp (maxSteps := 2000000) -implicitDefEqProofs +contextual [k2, kk2]
      refine callG_fun (w_zOver p1 250) ?_ ?_
      · first | (simp; done) | (simp [k2, kk2]; done)
      simp (maxSteps := 2000000) -implicitDefEqProofs +contextual [k2, kk2]
      refine ⟨(), ?_⟩
      try dsimp only
      refine Sub.cutF 2 (by simp) ?_ ?_ <;> simp [List.range_succ, toIdx_range, passed, k2, kk2] <;> grind
    · skip
      have kk2 := k2
      try simp at kk2
      refine EV.regionG tabOK ?_ -- region 5
      simp (maxSteps := 2000000) -implicitDefEqProofs +contextual [k2, kk2]
      refine ⟨(), ?_⟩
      try dsimp only
      refine Sub.cutF 2 (by simp) ?_ ?_ <;> simp [List.range_succ, toIdx_range, passed, k2, kk2] <;> grind
  · skip
    rintro _
    simp only [thenK_normal, blockK_normal, scopeK_normal, bodyK_normal]
    refine EV.condT ?_
    simp -implicitDefEqProofs
    refine condT_intro (fun k3 => ?_) (fun k3 => ?_)
    · try simp at k3
      obtain ⟨f3, e⟩ := pos_on2 e (by first | simpa using k3 | grind)
      try simp at f3
      refine EV.seq ?_
      refine EV.regionG tabOK ?_ -- region 6
      simp (maxSteps := 2000000) -implicitDefEqProofs
      refine EV.ret ?_
      simp only [thenK_ret, blockK_ret, scopeK_ret, bodyK_ret]
      subst e
      refine Fin.pure0 ?_
      first | (simp; done) | (simp <;> grind)
    · try simp at k3
      obtain ⟨f3, e⟩ := neg_on2 e (by first | simpa using k3 | grind)
      try simp at f3
      refine EV.skip ?_
      simp only [thenK_normal, blockK_normal, scopeK_normal]
      refine EV.seq ?_
      refine EV.regionG tabOK ?_ -- region 7
      simp (maxSteps := 2000000) -implicitDefEqProofs
      refine callG_fun (w_mValid p0 p1 hs) ?_ ?_
      · simp
      simp (maxSteps := 2000000) -implicitDefEqProofs
      refine EV.seq ?_
      refine EV.regionG tabOK ?_ -- region 8
      simp (maxSteps := 2000000) -implicitDefEqProofs
      refine EV.seq ?_
      refine EV.regionG tabOK ?_ -- region 9
      simp (maxSteps := 2000000) -implicitDefEqProofs
      refine EV.seq ?_
      have r4 : roomFor (p1.blocks.length) 232 := And.intro (by first | omega | (simp; omega) | (have q := hi _ (by assumption); simp; omega)) (by first | omega | (simp; omega) | (have q := hi _ (by assumption); simp; omega))
      try simp at r4
      refine EV.regionG tabOK ?_ -- region 10
      simp (maxSteps := 2000000) -implicitDefEqProofs [r4]
      refine EV.seq ?_
      have r5 : roomFor (p1.blocks.length + 1) 232 := And.intro (by first | omega | (simp; omega) | (have q := hi _ (by assumption); simp; omega)) (by first | omega | (simp; omega) | (have q := hi _ (by assumption); simp; omega))
      try simp [r4] at r5
      refine EV.regionG tabOK ?_ -- region 11
      simp (maxSteps := 2000000) -implicitDefEqProofs [r4, r5]
      refine EV.sub (Sub.rowsC 3 (es' := List.map blockC (p1.blocks ++ [(BlockD.mk ([]) (TmD.mk 3 0 (SpotD.mk 0 ([])) (ValueD.mk 0 ([]) (SpotD.mk 0 ([])) 0 0) (UseD.mk true 0 false (SpotD.mk 0 ([]))) ([])))])) rfl (nilR_app blockC p1.blocks _ (BlockD.mk ([]) (TmD.mk 3 0 (SpotD.mk 0 ([])) (ValueD.mk 0 ([]) (SpotD.mk 0 ([])) 0 0) (UseD.mk true 0 false (SpotD.mk 0 ([]))) ([]))) (by simp [allP, nilR])) rfl) ?_
      refine EV.seq ?_
      refine EV.seq ?_
      refine EV.nrm (fun _ : Unit => (⟨[.junk, .junk, .i .i64 p2, .i .i64 p3, .ptr 0 0 0 0, .ptr 1 0 0 0, .junk, .junk, .junk, .b true, .junk, .b (mValid p0 p1), .ptr 2 0 0 0, .junk, .junk, .junk, .junk, .junk, .junk, .junk, .junk, .junk, .junk, .junk, .junk, .junk, .junk, .junk, .junk, .junk, .junk, .junk, .junk, .junk, .junk, .junk, .junk, .junk, .junk, .junk, .junk, .junk, .junk, .junk, .junk, .junk, .junk, .junk, .junk, .junk, .junk, .junk, .junk, .junk, .junk, .junk, .junk, .junk, .junk, .junk, .junk, .junk, .b ((mValid p0 p1) && (!(mValid p0 (BodyD.mk p1.name p1.params p1.locals (p1.blocks ++ ([(BlockD.mk ([]) (TmD.mk 3 0 (SpotD.mk 0 ([])) (ValueD.mk 0 ([]) (SpotD.mk 0 ([])) 0 0) (UseD.mk true 0 false (SpotD.mk 0 ([]))) ([])))] : List BlockD)))))), .junk, .junk, .junk, .junk, .junk, .junk, .junk, .junk, .junk, .junk, .junk, .junk, .junk, .junk, .junk, .junk, .junk, .junk, .junk, .junk, .junk, .junk, .junk, .junk, .junk, .junk, .junk, .junk, .junk, .junk, .junk, .junk, .junk, .junk, .junk, .junk, .junk, .junk, .junk, .junk, .junk, .junk, .junk, .junk, .junk, .junk, .junk, .junk, .junk, .junk, .junk, .junk, .junk, .junk, .junk, .junk, .junk, .junk, .junk, .junk, .junk, .junk, .junk, .junk, .junk, .junk, .junk, .junk], [.arr 0 3 [[.ro 4 (p0.structs.map structC), .ro 3 (p0.enums.map enumC), .ro 4 (p0.fns.map fnC)]], .arr 0 4 [[.s p1.name, .i .i64 p1.params, .ro 4 (p1.locals.map localC), .ro 17 (p1.blocks.map blockC)]], .arr 0 4 [[.s p1.name, .i .i64 p1.params, .ro 4 (p1.locals.map localC), .sl 3 1 0 ((p1.blocks ++ ([(BlockD.mk ([]) (TmD.mk 3 0 (SpotD.mk 0 ([])) (ValueD.mk 0 ([]) (SpotD.mk 0 ([])) 0 0) (UseD.mk true 0 false (SpotD.mk 0 ([]))) ([])))] : List BlockD)).length)]], .arr 1 17 ((p1.blocks ++ ([(BlockD.mk ([]) (TmD.mk 3 0 (SpotD.mk 0 ([])) (ValueD.mk 0 ([]) (SpotD.mk 0 ([])) 0 0) (UseD.mk true 0 false (SpotD.mk 0 ([]))) ([])))] : List BlockD)).map blockC)]⟩ : St)) ?_ ?_
      · skip
        cases k7 : (mValid p0 p1)
        · skip
          have kk7 := k7
          try simp at kk7
          refine EV.regionG tabOK ?_ -- region 12
          simp (maxSteps := 2000000) -implicitDefEqProofs +contextual [r4, r5, k7, kk7]
          refine ⟨(), ?_⟩
          try dsimp only
          refine Sub.cutF 4 (by simp) ?_ ?_ <;> simp [List.range_succ, toIdx_range, passed, r4, r5, k7, kk7] <;> grind
        · skip
          have kk7 := k7
          try simp at kk7
          refine EV.regionG tabOK ?_ -- region 12
          simp (maxSteps := 2000000) -implicitDefEqProofs +contextual [r4, r5, k7, kk7]
          refine callG_data [3] (w_mValid p0 (BodyD.mk p1.name p1.params p1.locals (p1.blocks ++ ([(BlockD.mk ([]) (TmD.mk 3 0 (SpotD.mk 0 ([])) (ValueD.mk 0 ([]) (SpotD.mk 0 ([])) 0 0) (UseD.mk true 0 false (SpotD.mk 0 ([]))) ([])))] : List BlockD))) hs) ?_ ?_ ?_
          · simp [allP, allR, c0, ld1, ld0, cvOb, Pu, take_len_map, List.getD, List.range_succ, List.take_of_length_le, or_imp, forall_and, forall_exists_index, and_imp, r4, r5, k7, kk7] <;> ((first | refine .inl ⟨⟨?_, ?_⟩, ?_, ?_⟩ | refine .inl ⟨?_, ?_⟩) <;> (intro x hx; first | (obtain ⟨q, _, rfl⟩ := List.mem_map.1 (List.mem_of_mem_take hx); simp) | (obtain ⟨q, _, rfl⟩ := List.mem_map.1 (List.mem_of_mem_drop hx); simp) | (rcases List.mem_or_eq_of_mem_set hx with hx | hx <;> first | (obtain ⟨q, _, rfl⟩ := List.mem_map.1 hx; simp; done) | (subst hx; simp; done))))
          · first | trivial | simp [nr, nr1, nr0]
          simp (maxSteps := 2000000) -implicitDefEqProofs +contextual [r4, r5, k7, kk7]
          refine ⟨(), ?_⟩
          try dsimp only
          refine Sub.cutF 4 (by simp) ?_ ?_ <;> simp [List.range_succ, toIdx_range, passed, r4, r5, k7, kk7] <;> grind
      · skip
        rintro _
        simp only [thenK_normal, blockK_normal, scopeK_normal, bodyK_normal]
        refine EV.condT ?_
        simp -implicitDefEqProofs [r4, r5]
        refine condT_intro (fun k8 => ?_) (fun k8 => ?_)
        · try simp at k8
          obtain ⟨f8, e⟩ := pos_on2 e (by first | simpa using k8 | grind)
          try simp at f8
          refine EV.seq ?_
          refine EV.regionG tabOK ?_ -- region 13
          simp (maxSteps := 2000000) -implicitDefEqProofs [r4, r5]
          refine EV.ret ?_
          simp only [thenK_ret, blockK_ret, scopeK_ret, bodyK_ret]
          subst e
          refine Fin.pure0 ?_
          first | (simp; done) | (simp <;> grind)
        · try simp at k8
          obtain ⟨f8, e⟩ := neg_on2 e (by first | simpa using k8 | grind)
          try simp at f8
          refine EV.skip ?_
          simp only [thenK_normal, blockK_normal, scopeK_normal]
          refine EV.seq ?_
          refine EV.seq ?_
          obtain ⟨y14_22, gy14_22⟩ : ∃ z, (p1.blocks.getD ((p2).toNat) default) = z := ⟨_, rfl⟩
          replace e := bnd_on e gy14_22
          try dsimp only at e
          refine EV.nrm (fun _ : Unit => (⟨[.junk, .junk, .i .i64 p2, .i .i64 p3, .ptr 0 0 0 0, .ptr 1 0 0 0, .junk, .junk, .junk, .b true, .junk, .junk, .ptr 2 0 0 0, .junk, .junk, .junk, .junk, .junk, .junk, .junk, .junk, .junk, .junk, .junk, .junk, .junk, .junk, .junk, .junk, .junk, .junk, .junk, .junk, .junk, .junk, .junk, .junk, .junk, .junk, .junk, .junk, .junk, .junk, .junk, .junk, .junk, .junk, .junk, .junk, .junk, .junk, .junk, .junk, .junk, .junk, .junk, .junk, .junk, .junk, .junk, .junk, .junk, .junk, .junk, .junk, .junk, .junk, .junk, .junk, .junk, .junk, .junk, .junk, .junk, .junk, .junk, .junk, .junk, .junk, .junk, .junk, .junk, .junk, .junk, .junk, .junk, .junk, .junk, .junk, .junk, .b (((((!(mValid p0 p1)) || (decide (p2 < 0))) || (decide ((p1.blocks.length : Int) ≤ p2))) || (decide (p3 < 0))) || (decide ((y14_22.ins.length : Int) ≤ p3))), .junk, .junk, .junk, .junk, .junk, .junk, .junk, .junk, .junk, .junk, .junk, .junk, .junk, .junk, .junk, .junk, .junk, .junk, .junk, .junk, .junk, .junk, .junk, .junk, .junk, .junk, .junk, .junk, .junk, .junk, .junk, .junk, .junk, .junk, .junk, .junk, .junk, .junk, .junk, .junk], [.arr 0 3 [[.ro 4 (p0.structs.map structC), .ro 3 (p0.enums.map enumC), .ro 4 (p0.fns.map fnC)]], .arr 0 4 [[.s p1.name, .i .i64 p1.params, .ro 4 (p1.locals.map localC), .ro 17 (p1.blocks.map blockC)]], .arr 0 4 [[.s p1.name, .i .i64 p1.params, .ro 4 (p1.locals.map localC), .sl 3 1 0 ((p1.blocks ++ ([(BlockD.mk ([]) (TmD.mk 3 0 (SpotD.mk 0 ([])) (ValueD.mk 0 ([]) (SpotD.mk 0 ([])) 0 0) (UseD.mk true 0 false (SpotD.mk 0 ([]))) ([])))] : List BlockD)).length)]], .arr 1 17 ((p1.blocks ++ ([(BlockD.mk ([]) (TmD.mk 3 0 (SpotD.mk 0 ([])) (ValueD.mk 0 ([]) (SpotD.mk 0 ([])) 0 0) (UseD.mk true 0 false (SpotD.mk 0 ([]))) ([])))] : List BlockD)).map blockC)]⟩ : St)) ?_ ?_
          · skip
            cases k10 : (mValid p0 p1)
            · skip
              have kk10 := k10
              try simp at kk10
              refine EV.regionG tabOK ?_ -- region 14
              simp (maxSteps := 2000000) -implicitDefEqProofs +contextual [r4, r5, k10, kk10]
              refine ⟨(), ?_⟩
              try dsimp only
              refine Sub.cutF 4 (by simp) ?_ ?_ <;> simp [List.range_succ, toIdx_range, passed, r4, r5, k10, kk10] <;> grind
            · skip
              have kk10 := k10
              try simp at kk10
              by_cases k11 : p2 < 0
              · skip
                have kk11 := k11
                try simp at kk11
                refine EV.regionG tabOK ?_ -- region 14
                simp (maxSteps := 2000000) -implicitDefEqProofs +contextual [r4, r5, k10, kk10, k11, kk11]
                refine ⟨(), ?_⟩
                try dsimp only
                refine Sub.cutF 4 (by simp) ?_ ?_ <;> simp [List.range_succ, toIdx_range, passed, r4, r5, k10, kk10, k11, kk11] <;> grind
              · skip
                have kk11 := k11
                try simp at kk11
                by_cases k12 : (p1.blocks.length : Int) ≤ p2
                · skip
                  have kk12 := k12
                  try simp at kk12
                  refine EV.regionG tabOK ?_ -- region 14
                  simp (maxSteps := 2000000) -implicitDefEqProofs +contextual [r4, r5, k10, kk10, k11, kk11, k12, kk12]
                  refine ⟨(), ?_⟩
                  try dsimp only
                  refine Sub.cutF 4 (by simp) ?_ ?_ <;> simp [List.range_succ, toIdx_range, passed, r4, r5, k10, kk10, k11, kk11, k12, kk12] <;> grind
                · skip
                  have kk12 := k12
                  try simp at kk12
                  by_cases k13 : p3 < 0
                  · skip
                    have kk13 := k13
                    try simp at kk13
                    refine EV.regionG tabOK ?_ -- region 14
                    simp (maxSteps := 2000000) -implicitDefEqProofs +contextual [r4, r5, k10, kk10, k11, kk11, k12, kk12, k13, kk13]
                    refine ⟨(), ?_⟩
                    try dsimp only
                    refine Sub.cutF 4 (by simp) ?_ ?_ <;> simp [List.range_succ, toIdx_range, passed, r4, r5, k10, kk10, k11, kk11, k12, kk12, k13, kk13] <;> grind
                  · skip
                    have kk13 := k13
                    try simp at kk13
                    have b14 : 0 ≤ p2 ∧ p2 < (p1.blocks.length : Int) := by (first | omega | (rw [IntKind.wrap_i64]; omega))
                    have c14 : (p2).toNat < p1.blocks.length := by omega
                    have hy14_22 : p1.blocks[(p2).toNat] = y14_22 := by rw [← gy14_22, List.getD_eq_getElem?_getD, List.getElem?_eq_getElem c14]; rfl
                    have my14_22 : y14_22 ∈ p1.blocks := by rw [← hy14_22]; exact List.getElem_mem _
                    refine EV.regionG tabOK ?_ -- region 14
                    simp (maxSteps := 2000000) -implicitDefEqProofs +contextual [r4, r5, k10, kk10, k11, kk11, k12, kk12, k13, kk13, b14, c14, hy14_22]
                    refine ⟨(), ?_⟩
                    try dsimp only
                    refine Sub.cutF 4 (by simp) ?_ ?_ <;> simp [List.range_succ, toIdx_range, passed, r4, r5, k10, kk10, k11, kk11, k12, kk12, k13, kk13, b14, c14, hy14_22] <;> grind
          · skip
            rintro _
            simp only [thenK_normal, blockK_normal, scopeK_normal, bodyK_normal]
            refine EV.condT ?_
            simp -implicitDefEqProofs [r4, r5]
            refine condT_intro (fun k15 => ?_) (fun k15 => ?_)
            · try simp at k15
              obtain ⟨f15, e⟩ := pos_on2 e (by first | simpa using k15 | grind)
              try simp at f15
              refine EV.seq ?_
              refine EV.regionG tabOK ?_ -- region 15
              simp (maxSteps := 2000000) -implicitDefEqProofs [r4, r5]
              refine EV.ret ?_
              simp only [thenK_ret, blockK_ret, scopeK_ret, bodyK_ret]
              subst e
              refine Fin.pure0 ?_
              first | (simp; done) | (simp <;> grind)
            · try simp at k15
              obtain ⟨f15, e⟩ := neg_on2 e (by first | simpa using k15 | grind)
              try simp at f15
              refine EV.skip ?_
              simp only [thenK_normal, blockK_normal, scopeK_normal]
              refine EV.seq ?_
              refine EV.regionG tabOK ?_ -- region 16
              simp (maxSteps := 2000000) -implicitDefEqProofs [r4, r5]
              refine EV.seq ?_
              have my0 : y14_22 ∈ p1.blocks := by rw [← gy14_22, List.getD_eq_getElem?_getD, List.getElem?_eq_getElem (by omega)]; exact List.getElem_mem _
              have qi := hi _ my0
              have hw3 : IntKind.i64.wrap (p3 + 1) = p3 + 1 := wrap_in _ (by omega) (by omega)
              have b16 : 0 ≤ p2 ∧ p2 < (p1.blocks.length : Int) := by (first | omega | (rw [IntKind.wrap_i64]; omega))
              have c16 : (p2).toNat < p1.blocks.length := by omega
              have hy14_22 : p1.blocks[(p2).toNat] = y14_22 := by rw [← gy14_22, List.getD_eq_getElem?_getD, List.getElem?_eq_getElem c16]; rfl
              have my14_22 : y14_22 ∈ p1.blocks := by rw [← hy14_22]; exact List.getElem_mem _
              have sb17 : 0 ≤ 0 ∧ 0 ≤ p3 ∧ p3 ≤ (y14_22.ins.length : Int) := by (first | omega | (rw [IntKind.wrap_i64]; omega))
              obtain ⟨s1_17, s2_17, s3_17⟩ := sb17
              have s4_17 : (p3).toNat ≤ y14_22.ins.length := by omega
              have st1_17 := s1_17
              try simp [hw3, hy14_22] at st1_17
              have st2_17 := s2_17
              try simp [hw3, hy14_22] at st2_17
              have st3_17 := s3_17
              try simp [hw3, hy14_22] at st3_17
              have st4_17 := s4_17
              try simp [hw3, hy14_22] at st4_17
              have r18 : roomFor ((y14_22.ins.take ((p3).toNat)).length) 184 := And.intro (by first | omega | (simp; omega) | (have q := hi _ (by assumption); simp; omega)) (by first | omega | (simp; omega) | (have q := hi _ (by assumption); simp; omega))
              try simp [r4, r5, hw3, b16, c16, hy14_22, s1_17, s2_17, s3_17, s4_17, st1_17, st2_17, st3_17, st4_17] at r18
              refine EV.regionG tabOK ?_ -- region 17
              simp (maxSteps := 2000000) -implicitDefEqProofs [r4, r5, hw3, b16, c16, hy14_22, s1_17, s2_17, s3_17, s4_17, st1_17, st2_17, st3_17, st4_17, r18]
              refine EV.seq ?_
              have sb19 : 0 ≤ (IntKind.i64.wrap (p3 + 1)) ∧ (IntKind.i64.wrap (p3 + 1)) ≤ (y14_22.ins.length : Int) ∧ (y14_22.ins.length : Int) ≤ (y14_22.ins.length : Int) := by (first | omega | (rw [IntKind.wrap_i64]; omega))
              obtain ⟨s1_19, s2_19, s3_19⟩ := sb19
              have s4_19 : ((IntKind.i64.wrap (p3 + 1))).toNat ≤ y14_22.ins.length := by omega
              have st1_19 := s1_19
              try simp [hw3, hy14_22] at st1_19
              have st2_19 := s2_19
              try simp [hw3, hy14_22] at st2_19
              have st3_19 := s3_19
              try simp [hw3, hy14_22] at st3_19
              have st4_19 := s4_19
              try simp [hw3, hy14_22] at st4_19
              have r20 : roomFor ((y14_22.ins.take ((p3).toNat)).length + (y14_22.ins.drop (((IntKind.i64.wrap (p3 + 1))).toNat)).length) 184 := And.intro (by first | omega | (simp; omega) | (have q := hi _ (by assumption); simp; omega)) (by first | omega | (simp; omega) | (have q := hi _ (by assumption); simp; omega))
              try simp [r4, r5, hw3, b16, c16, hy14_22, s1_17, s2_17, s3_17, s4_17, st1_17, st2_17, st3_17, st4_17, r18, s1_19, s2_19, s3_19, s4_19, st1_19, st2_19, st3_19, st4_19] at r20
              refine EV.regionG tabOK ?_ -- region 18
              simp (maxSteps := 2000000) -implicitDefEqProofs [r4, r5, hw3, b16, c16, hy14_22, s1_17, s2_17, s3_17, s4_17, st1_17, st2_17, st3_17, st4_17, r18, s1_19, s2_19, s3_19, s4_19, st1_19, st2_19, st3_19, st4_19, r20, List.take_of_length_le]
              refine EV.seq ?_
              refine EV.sub (σ' := ⟨[.junk, .junk, .i .i64 p2, .junk, .ptr 0 0 0 0, .ptr 1 0 0 0, .junk, .junk, .junk, .b true, .junk, .junk, .ptr 2 0 0 0, .ro 15 (((y14_22.ins.take ((p3).toNat)) ++ (y14_22.ins.drop (((IntKind.i64.wrap (p3 + 1))).toNat))).map inC), .junk, .junk, .junk, .junk, .junk, .junk, .junk, .junk, .junk, .junk, .junk, .junk, .junk, .junk, .junk, .junk, .junk, .junk, .junk, .junk, .junk, .junk, .junk, .junk, .junk, .junk, .junk, .junk, .junk, .junk, .junk, .junk, .junk, .junk, .junk, .junk, .junk, .junk, .junk, .junk, .junk, .junk, .junk, .junk, .junk, .junk, .junk, .junk, .junk, .junk, .junk, .junk, .junk, .junk, .junk, .junk, .junk, .junk, .junk, .junk, .junk, .junk, .junk, .junk, .junk, .junk, .junk, .junk, .junk, .junk, .junk, .junk, .junk, .junk, .junk, .junk, .junk, .junk, .junk, .junk, .junk, .junk, .junk, .junk, .junk, .junk, .junk, .junk, .junk, .junk, .junk, .junk, .junk, .junk, .junk, .junk, .junk, .junk, .junk, .junk, .junk, .junk, .junk, .junk, .junk, .junk, .junk, .junk, .junk, .junk, .junk, .junk, .junk, .junk, .junk, .junk, .junk], [.arr 0 3 [[.ro 4 (p0.structs.map structC), .ro 3 (p0.enums.map enumC), .ro 4 (p0.fns.map fnC)]], .arr 0 4 [[.s p1.name, .i .i64 p1.params, .ro 4 (p1.locals.map localC), .ro 17 (p1.blocks.map blockC)]], .arr 0 4 [[.s p1.name, .i .i64 p1.params, .ro 4 (p1.locals.map localC), .sl 3 1 0 ((p1.blocks ++ ([(BlockD.mk ([]) (TmD.mk 3 0 (SpotD.mk 0 ([])) (ValueD.mk 0 ([]) (SpotD.mk 0 ([])) 0 0) (UseD.mk true 0 false (SpotD.mk 0 ([]))) ([])))] : List BlockD)).length)]], .arr 1 17 ((p1.blocks ++ ([(BlockD.mk ([]) (TmD.mk 3 0 (SpotD.mk 0 ([])) (ValueD.mk 0 ([]) (SpotD.mk 0 ([])) 0 0) (UseD.mk true 0 false (SpotD.mk 0 ([]))) ([])))] : List BlockD)).map blockC)]⟩) ?_ ?_
              · skip
                try dsimp only
                refine Sub.cutG 4 (by simp) ?_ ?_ <;> simp [allP, allR, c0, slotR, conv1, conv0, cvOb, Pu, take_len_map, List.getD, List.range_succ, toIdx_range, passed, List.take_of_length_le, or_imp, forall_and, forall_exists_index, and_imp, s1_17, s2_17, s3_17, s4_17, st1_17, st2_17, st3_17, st4_17, s1_19, s2_19, s3_19, s4_19, st1_19, st2_19, st3_19, st4_19, r4, r5, hw3, b16, c16, hy14_22, r18, r20] <;> ((first | refine .inl ⟨⟨?_, ?_⟩, ?_, ?_⟩ | refine .inl ⟨?_, ?_⟩) <;> (intro x hx; first | (obtain ⟨q, _, rfl⟩ := List.mem_map.1 (List.mem_of_mem_take hx); simp) | (obtain ⟨q, _, rfl⟩ := List.mem_map.1 (List.mem_of_mem_drop hx); simp) | (rcases List.mem_or_eq_of_mem_set hx with hx | hx <;> first | (obtain ⟨q, _, rfl⟩ := List.mem_map.1 hx; simp; done) | (subst hx; simp; done))))
              have b21 : 0 ≤ p2 ∧ p2 < ((p1.blocks ++ ([(BlockD.mk ([]) (TmD.mk 3 0 (SpotD.mk 0 ([])) (ValueD.mk 0 ([]) (SpotD.mk 0 ([])) 0 0) (UseD.mk true 0 false (SpotD.mk 0 ([]))) ([])))] : List BlockD)).length : Int) := by (first | omega | (simp; omega))
              have c21 : (p2).toNat < (p1.blocks ++ ([(BlockD.mk ([]) (TmD.mk 3 0 (SpotD.mk 0 ([])) (ValueD.mk 0 ([]) (SpotD.mk 0 ([])) 0 0) (UseD.mk true 0 false (SpotD.mk 0 ([]))) ([])))] : List BlockD)).length := by omega
              have bb21 := b21
              try simp at bb21
              have cc21 := c21
              try simp at cc21
              refine EV.drawG tabOK mixedOK ?_ -- region 19
              simp (maxSteps := 2000000) -implicitDefEqProofs [r4, r5, hw3, b16, c16, hy14_22, s1_17, s2_17, s3_17, s4_17, st1_17, st2_17, st3_17, st4_17, r18, s1_19, s2_19, s3_19, s4_19, st1_19, st2_19, st3_19, st4_19, r20, b21, c21, bb21, cc21]
              refine And.intro ?_ ?_
              · first | decide +kernel | (simp -implicitDefEqProofs; decide +kernel) | (split <;> decide +kernel)
              try simp -implicitDefEqProofs
              refine EV.seq ?_
              refine EV.regionG tabOK ?_ -- region 20
              simp (maxSteps := 2000000) -implicitDefEqProofs +contextual [r4, r5, hw3, b16, c16, hy14_22, s1_17, s2_17, s3_17, s4_17, st1_17, st2_17, st3_17, st4_17, r18, s1_19, s2_19, s3_19, s4_19, st1_19, st2_19, st3_19, st4_19, r20, b21, c21, bb21, cc21]
              refine callG_data [3] (w_mValid p0 (BodyD.mk p1.name p1.params p1.locals ((p1.blocks ++ ([(BlockD.mk ([]) (TmD.mk 3 0 (SpotD.mk 0 ([])) (ValueD.mk 0 ([]) (SpotD.mk 0 ([])) 0 0) (UseD.mk true 0 false (SpotD.mk 0 ([]))) ([])))] : List BlockD)).set ((p2).toNat) (BlockD.mk ((y14_22.ins.take ((p3).toNat)) ++ (y14_22.ins.drop (((IntKind.i64.wrap (p3 + 1))).toNat))) y14_22.end_))) hs) ?_ ?_ ?_
              · simp [allP, allR, c0, ld1, ld0, cvOb, Pu, take_len_map, List.getD, List.range_succ, List.take_of_length_le, or_imp, forall_and, forall_exists_index, and_imp, r4, r5, hw3, b16, c16, hy14_22, s1_17, s2_17, s3_17, s4_17, st1_17, st2_17, st3_17, st4_17, r18, s1_19, s2_19, s3_19, s4_19, st1_19, st2_19, st3_19, st4_19, r20, b21, c21, bb21, cc21] <;> ((first | refine .inl ⟨⟨?_, ?_⟩, ?_, ?_⟩ | refine .inl ⟨?_, ?_⟩) <;> (intro x hx; first | (obtain ⟨q, _, rfl⟩ := List.mem_map.1 (List.mem_of_mem_take hx); simp) | (obtain ⟨q, _, rfl⟩ := List.mem_map.1 (List.mem_of_mem_drop hx); simp) | (rcases List.mem_or_eq_of_mem_set hx with hx | hx <;> first | (obtain ⟨q, _, rfl⟩ := List.mem_map.1 hx; simp; done) | (subst hx; simp; done))))
              · first | trivial | simp [nr, nr1, nr0]
              simp (maxSteps := 2000000) -implicitDefEqProofs +contextual [r4, r5, hw3, b16, c16, hy14_22, s1_17, s2_17, s3_17, s4_17, st1_17, st2_17, st3_17, st4_17, r18, s1_19, s2_19, s3_19, s4_19, st1_19, st2_19, st3_19, st4_19, r20, b21, c21, bb21, cc21]
              refine EV.ret ?_
              simp only [thenK_ret, blockK_ret, scopeK_ret, bodyK_ret]
              subst e
              refine Fin.pure0 ?_
              first | (simp; done) | (simp <;> grind)
end
end Go.Proofs.Tryd
end
section
namespace Go.Proofs.Tryd
open Go Go.AM

theorem run_ite {ρ ν : Type} {c : Prop} [Decidable c] {a b : Ctl ρ ν} {f : ν → ρ} : (if c then a else b).run f = if c then a.run f else b.run f := by split <;> rfl
theorem bind_ite {ρ ν μ : Type} {c : Prop} [Decidable c] {a b : Ctl ρ ν} {f : ν → Ctl ρ μ} : (if c then a else b).bind f = if c then a.bind f else b.bind f := by split <;> rfl
theorem run_bind {ρ ν μ : Type} {a : Ctl ρ ν} {g : ν → Ctl ρ μ} {f : μ → ρ} : (a.bind g).run f = a.run fun v => (g v).run f := by cases a <;> rfl

/-- One step further in. -/
noncomputable def spotStep (p0 : MirBodyD) (k : Int) (sh : Bool) (t : TyD) : Ctl (TyD × Bool × Int) (Bool × TyD) :=
  if ¬ ((mStep p0 t k).2 = true) then .ret (⟨0, [], []⟩, false, 84) else .go (sh || (decide (k = -1) && decide (t.k = 5)), (mStep p0 t k).1)
theorem mSpot_snoc (p0 : MirBodyD) (k : Int) : ∀ (l : List Int) (sh : Bool) (t : TyD), mSpot_l5 p0 (l ++ [k]) sh t = (mSpot_l5 p0 l sh t).bind fun v => spotStep p0 k v.1 v.2
  | [], sh, t => by
    simp only [List.nil_append, mSpot_l5, Ctl.bind_go, spotStep]
  | x :: l, sh, t => by
    simp only [List.cons_append, mSpot_l5]
    split
    · rfl
    · exact mSpot_snoc p0 k l _ _
theorem mSpot_ret (p0 : MirBodyD) : ∀ (l : List Int) (sh : Bool) (t : TyD) (r : TyD × Bool × Int), mSpot_l5 p0 l sh t = .ret r → r = (⟨0, [], []⟩, false, 84)
  | [], _, _, _, h => by simp [mSpot_l5] at h
  | x :: l, sh, t, r, h => by
    simp only [mSpot_l5] at h
    split at h
    · exact (Ctl.ret.inj h).symm
    · exact mSpot_ret p0 l _ _ r h
/-- A spot's type: what is wrong is told by one number. -/
theorem mSpot_err (p0 : MirBodyD) (x : SpotD) (h : (mSpot p0 x).2.2 ≠ 0) : mSpot p0 x = (⟨0, [], []⟩, false, 84) := by
  unfold mSpot at h ⊢
  split
  · rfl
  · rename_i hc
    rw [if_neg hc] at h
    simp only [bnd] at h ⊢
    cases hq : mSpot_l5 p0 x.path false (p0.b.locals.getD x.local_.toNat default).ty with
    | ret r => rw [Ctl.run_ret]; exact mSpot_ret p0 _ _ _ _ hq
    | go v => rw [hq, Ctl.run_go] at h; exact absurd rfl h
/-- The spot one step further in. -/
theorem mSpot_more (p0 : MirBodyD) (x : SpotD) (k : Int) : mSpot p0 ⟨x.local_, x.path ++ [k]⟩ = if (mSpot p0 x).2.2 ≠ 0 then (⟨0, [], []⟩, false, 84) else
    (spotStep p0 k (mSpot p0 x).2.1 (mSpot p0 x).1).run fun v => (v.2, v.1, 0) := by
  unfold mSpot
  by_cases hc : (x.local_ < 0) ∨ ((p0.b.locals.length : Int) ≤ x.local_)
  · simp only [if_pos hc]
    simp
  · simp only [if_neg hc, bnd, mSpot_snoc]
    cases hq : mSpot_l5 p0 x.path false (p0.b.locals.getD x.local_.toNat default).ty with
    | ret r =>
      obtain rfl := mSpot_ret p0 _ _ _ _ hq
      simp [Ctl.bind, Ctl.run]
    | go v => simp [Ctl.bind_go, Ctl.run_go]
theorem mStep_in (p0 : MirBodyD) (t : TyD) : mStep p0 t (-1) = if (t.k = 4 ∨ t.k = 5 ∨ t.k = 6) ∧ (t.l.length : Int) = 1 then (t.l.getD 0 default, true) else (⟨0, [], []⟩, false) := by
  unfold mStep
  simp only [if_true, bnd, run_ite, Ctl.run_ret, Ctl.run_go]
  by_cases h4 : t.k = 4
  · by_cases hl : (t.l.length : Int) = 1 <;> simp [h4, hl]
  by_cases h5 : t.k = 5
  · by_cases hl : (t.l.length : Int) = 1 <;> simp [h5, hl]
  by_cases h6 : t.k = 6
  · by_cases hl : (t.l.length : Int) = 1 <;> simp [h6, hl]
  simp [h4, h5, h6]
theorem mStep_field (p0 : MirBodyD) (t : TyD) (k : Int) (hk : k ≠ -1) (h : (mStep p0 t k).2 = true) : t.k = 2 ∧ 0 ≤ k := by
  unfold mStep at h
  simp only [if_neg hk, bnd] at h
  split at h
  · cases h
  · rename_i hc
    constructor
    · by_cases q : t.k = 2
      · exact q
      · exact absurd (.inl (.inl (.inl q))) hc
    · by_cases q : k < 0
      · exact absurd (.inl (.inr q)) hc
      · omega
end Go.Proofs.Tryd
end
section
namespace Go.Proofs.Tryd
open Go Go.AM

section
variable {s : SourceD} {b c : BodyD}

theorem mSpot_l_c (l : List Int) (sh : Bool) (t : TyD) : mSpot_l5 ⟨s, b⟩ l sh t = mSpot_l5 ⟨s, c⟩ l sh t := by
  induction l generalizing sh t with
  | nil => rfl
  | cons k l ih =>
    simp only [mSpot_l5]
    rw [show mStep ⟨s, b⟩ t k = mStep ⟨s, c⟩ t k from rfl, ih]
theorem mSpot_c (hl : b.locals = c.locals) : mSpot ⟨s, b⟩ = mSpot ⟨s, c⟩ := by
  funext x
  unfold mSpot
  simp only [hl, bnd]
  rw [mSpot_l_c (c := c)]
theorem mUse_c (hl : b.locals = c.locals) : mUse ⟨s, b⟩ = mUse ⟨s, c⟩ := by
  funext x
  unfold mUse
  rw [mSpot_c hl]
theorem mUses_l_c (hl : b.locals = c.locals) (w : List TyD) : ∀ (l : List UseD) (j : Nat), mUses_l4 ⟨s, b⟩ w l j = mUses_l4 ⟨s, c⟩ w l j
  | [], _ => rfl
  | x :: l, j => by
    simp only [mUses_l4]
    rw [mUse_c hl, mUses_l_c hl w l]
theorem mUses_c (hl : b.locals = c.locals) : mUses ⟨s, b⟩ = mUses ⟨s, c⟩ := by
  funext l w
  unfold mUses
  rw [mUses_l_c hl]
theorem mValue_c (hl : b.locals = c.locals) : mValue ⟨s, b⟩ = mValue ⟨s, c⟩ := by
  funext v
  have e1 : mRefers ⟨s, b⟩ = mRefers ⟨s, c⟩ := by funext v; unfold mRefers; rw [mSpot_c hl]
  have e2 : mUnboxes ⟨s, b⟩ = mUnboxes ⟨s, c⟩ := by funext v; unfold mUnboxes; rw [mSpot_c hl]
  unfold mValue
  rw [e1, e2, mUses_c hl, mUse_c hl]
  rfl
theorem mNumber_c (hl : b.locals = c.locals) : mNumber ⟨s, b⟩ = mNumber ⟨s, c⟩ := by
  funext u
  unfold mNumber
  rw [mUse_c hl]
theorem mVariants_c (hl : b.locals = c.locals) : mVariants ⟨s, b⟩ = mVariants ⟨s, c⟩ := by
  funext u
  unfold mVariants
  rw [mSpot_c hl]
theorem mSettable_c (hl : b.locals = c.locals) : mSettable ⟨s, b⟩ = mSettable ⟨s, c⟩ := by
  funext u
  unfold mSettable
  rw [mSpot_c hl]
theorem mBare_c (hl : b.locals = c.locals) : mBare ⟨s, b⟩ = mBare ⟨s, c⟩ := by
  funext u
  unfold mBare
  simp only [hl]
theorem mIn_c (hl : b.locals = c.locals) : mIn ⟨s, b⟩ = mIn ⟨s, c⟩ := by
  funext x
  have e1 : mOpen ⟨s, b⟩ = mOpen ⟨s, c⟩ := by funext v; unfold mOpen; rw [mSpot_c hl, mVariants_c hl]
  have e2 : mSet ⟨s, b⟩ = mSet ⟨s, c⟩ := by funext v; unfold mSet; rw [mSpot_c hl, mValue_c hl]
  unfold mIn
  rw [e1, e2, mBare_c hl, mNumber_c hl]
  rfl
theorem ixInt_any (f : Int → Bool) : ∀ (l : List Int) (j : Nat), 0 ≤ ((ixInt_l2 f l j).run fun _ => (-1 : Int)) ↔ l.any f = true
  | [], j => by simp [ixInt_l2, Ctl.run]
  | x :: l, j => by
    rw [List.any_cons]
    by_cases h : f x = true
    · rw [show ixInt_l2 f (x :: l) j = .ret (j : Int) from if_pos h, h]; simp [Ctl.run]
    · rw [show ixInt_l2 f (x :: l) j = ixInt_l2 f l (j + 1) from if_neg h, Bool.eq_false_iff.2 h]; simpa using ixInt_any f l (j + 1)
theorem cfInt_any (l : List Int) (f : Int → Bool) : cfInt l f = l.any f := by
  unfold cfInt ixInt
  rw [Bool.eq_iff_iff, decide_eq_true_eq]
  exact ixInt_any f l 0
/-- An end that may be stays so with more blocks. -/
theorem mTm_c (hl : b.locals = c.locals) (hn : b.blocks.length ≤ c.blocks.length) {x : TmD} (h : mTm ⟨s, b⟩ x = true) : mTm ⟨s, c⟩ x = true := by
  have e1 : mAsks ⟨s, b⟩ = mAsks ⟨s, c⟩ := by funext v; unfold mAsks; rw [mSpot_c hl, mSettable_c hl]
  unfold mTm at h ⊢
  rw [mNumber_c hl, mSettable_c hl, mVariants_c hl, e1] at h
  split at h
  · cases h
  · rename_i hc
    rw [if_neg]
    · exact h
    · rw [cfInt_any] at hc ⊢
      intro hq
      apply hc
      rw [List.any_eq_true] at hq ⊢
      obtain ⟨z, hz, hq⟩ := hq
      refine ⟨z, hz, ?_⟩
      simp only [mTm_1, Bool.or_eq_true, decide_eq_true_eq] at hq ⊢
      omega
end

theorem l15_all (s : SourceD) (b : BodyD) : ∀ (l : List InD), mValid_l15 s b l = if l.all (mIn ⟨s, b⟩) = true then .go () else .ret false
  | [] => rfl
  | x :: l => by
    have ih := l15_all s b l
    simp only [mValid_l15]
    by_cases h : mIn ⟨s, b⟩ x = true
    · rw [if_neg (by simpa using h), ih]; simp [h]
    · rw [if_pos h]; simp [h]
theorem l12_all (s : SourceD) (b : BodyD) : ∀ (l : List BlockD), ((mValid_l12 s b l).run fun _ => true) = l.all fun k => k.ins.all (mIn ⟨s, b⟩) && mTm ⟨s, b⟩ k.end_
  | [] => rfl
  | k :: l => by
    simp only [mValid_l12, List.all_cons, l15_all]
    by_cases h : k.ins.all (mIn ⟨s, b⟩) = true
    · rw [if_pos h, h, Bool.true_and, Ctl.bind_go]
      by_cases h2 : mTm ⟨s, b⟩ k.end_ = true
      · rw [if_neg (by simpa using h2), h2, Bool.true_and]; exact l12_all s b l
      · rw [if_pos h2, Bool.eq_false_iff.2 h2]; rfl
    · rw [if_neg h, Bool.eq_false_iff.2 h]; rfl

theorem l6_c {s : SourceD} {b c : BodyD} : ∀ (l : List LocalD), mValid_l6 s b l = mValid_l6 s c l
  | [] => rfl
  | x :: l => by
    simp only [mValid_l6]
    rw [show mLocal ⟨s, b⟩ x = mLocal ⟨s, c⟩ x from rfl, l6_c l]
/-- What is valid stays so with blocks of which each is as it may be. -/
theorem valid_blocks {s : SourceD} {b : BodyD} {B : List BlockD} (h : mValid s b = true) (hn : b.blocks.length ≤ B.length)
    (hB : ∀ k ∈ B, (k.ins.all (mIn ⟨s, b⟩) && mTm ⟨s, ⟨b.name, b.params, b.locals, B⟩⟩ k.end_) = true) : mValid s ⟨b.name, b.params, b.locals, B⟩ = true := by
  unfold mValid at h ⊢
  simp only [bnd] at h ⊢
  split at h
  · cases h
  · rename_i hc
    rw [if_neg]
    · rw [l6_c (c := b)]
      cases hq : mValid_l6 s b b.locals with
      | ret r =>
        have : ∀ (l : List LocalD) (r : Bool), mValid_l6 s b l = .ret r → r = false := by
          intro l
          induction l with
          | nil => intro r h; cases h
          | cons y l ih =>
            intro r h
            simp only [mValid_l6] at h
            split at h
            · cases h; rfl
            · exact ih r h
        obtain rfl := this _ _ hq
        rw [hq] at h; cases h
      | go v =>
        rw [Ctl.run_go, l12_all, List.all_eq_true]
        intro k hk
        rw [mIn_c (s := s) (b := ⟨b.name, b.params, b.locals, B⟩) (c := b) rfl]
        exact hB k hk
    · have hb0 : ¬ ((b.blocks.length : Int) = 0) := fun q => hc (by simp [q])
      intro hq
      apply hc
      rcases hq with (((((hq | hq) | hq) | hq) | hq) | hq) | hq
      · exact absurd hq (by omega)
      · exact .inl (.inl (.inl (.inl (.inl (.inr hq)))))
      · exact .inl (.inl (.inl (.inl (.inr hq))))
      · exact .inl (.inl (.inl (.inr hq)))
      · exact .inl (.inl (.inr hq))
      · exact .inl (.inr hq)
      · exact .inr hq
theorem valid_of {s : SourceD} {b : BodyD} (h : mValid s b = true) : ∀ k ∈ b.blocks, k.ins.all (mIn ⟨s, b⟩) = true ∧ mTm ⟨s, b⟩ k.end_ = true := by
  unfold mValid at h
  simp only [bnd] at h
  split at h
  · cases h
  · cases hq : mValid_l6 s b b.locals with
    | ret r =>
      have : ∀ (l : List LocalD) (r : Bool), mValid_l6 s b l = .ret r → r = false := by
        intro l
        induction l with
        | nil => intro r h; cases h
        | cons y l ih =>
          intro r h
          simp only [mValid_l6] at h
          split at h
          · cases h; rfl
          · exact ih r h
      obtain rfl := this _ _ hq
      rw [hq] at h; cases h
    | go v =>
      rw [hq, Ctl.run_go, l12_all, List.all_eq_true] at h
      intro k hk
      simpa using h k hk

noncomputable def endB : BlockD := BlockD.mk ([]) (TmD.mk 3 0 (SpotD.mk 0 ([])) (ValueD.mk 0 ([]) (SpotD.mk 0 ([])) 0 0) (UseD.mk true 0 false (SpotD.mk 0 ([]))) ([]))
theorem endB_ok (s : SourceD) (c : BodyD) : mTm ⟨s, c⟩ endB.end_ = true := by
  simp [mTm, endB, cfInt, ixInt, ixInt_l2, Ctl.run, mEmpty, mNoValue, mNumber, mUse, mIs]

theorem valid_more {s : SourceD} {b : BodyD} (h : mValid s b = true) : mValid s ⟨b.name, b.params, b.locals, b.blocks ++ [endB]⟩ = true := by
  refine valid_blocks h (by simp) fun k hk => ?_
  rw [Bool.and_eq_true]
  rcases List.mem_append.1 hk with hk | hk
  · obtain ⟨h1, h2⟩ := valid_of h k hk
    exact ⟨h1, mTm_c (b := b) (c := ⟨b.name, b.params, b.locals, b.blocks ++ [endB]⟩) rfl (by simp) h2⟩
  · obtain rfl := List.mem_singleton.1 hk
    exact ⟨rfl, endB_ok _ _⟩
theorem valid_less {s : SourceD} {b : BodyD} (h : mValid s b = true) {at_ : Nat} (hat : at_ < b.blocks.length) {l : List InD} (hl : ∀ x ∈ l, x ∈ (b.blocks.getD at_ default).ins) :
    mValid s ⟨b.name, b.params, b.locals, (b.blocks ++ [endB]).set at_ ⟨l, (b.blocks.getD at_ default).end_⟩⟩ = true := by
  have hmem : b.blocks.getD at_ default ∈ b.blocks := by
    rw [List.getD_eq_getElem?_getD, List.getElem?_eq_getElem hat]
    exact List.getElem_mem _
  refine valid_blocks h (by simp) fun k hk => ?_
  rw [Bool.and_eq_true]
  rcases List.mem_or_eq_of_mem_set hk with hk | rfl
  · rcases List.mem_append.1 hk with hk | hk
    · obtain ⟨h1, h2⟩ := valid_of h k hk
      exact ⟨h1, mTm_c (b := b) (c := ⟨b.name, b.params, b.locals, (b.blocks ++ [endB]).set at_ ⟨l, (b.blocks.getD at_ default).end_⟩⟩) rfl (by simp) h2⟩
    · obtain rfl := List.mem_singleton.1 hk
      exact ⟨rfl, endB_ok _ _⟩
  · obtain ⟨h1, h2⟩ := valid_of h _ hmem
    rw [List.all_eq_true] at h1
    exact ⟨List.all_eq_true.2 fun x hx => h1 x (hl x hx), mTm_c (b := b) (c := ⟨b.name, b.params, b.locals, (b.blocks ++ [endB]).set at_ ⟨l, (b.blocks.getD at_ default).end_⟩⟩) rfl (by simp) h2⟩

theorem lMirMore_true (s : SourceD) (b : BodyD) (at_ step : Int) (hi : ∀ y ∈ b.blocks, y.ins.length ≤ 764877654082) : lMirMore s b at_ step = true := by
  unfold lMirMore
  split
  · rfl
  have e : (BlockD.mk ([]) (TmD.mk 3 0 (SpotD.mk 0 ([])) (ValueD.mk 0 ([]) (SpotD.mk 0 ([])) 0 0) (UseD.mk true 0 false (SpotD.mk 0 ([]))) ([]))) = endB := rfl
  simp only [e, bnd]
  by_cases hv : mValid s b = true
  · rw [valid_more hv]
    simp only [not_true_eq_false, and_false, if_false, hv, false_or]
    split
    · rfl
    · rename_i hc
      refine valid_less hv (by omega) fun x hx => ?_
      rcases List.mem_append.1 hx with hx | hx
      · exact List.mem_of_mem_take hx
      · exact List.mem_of_mem_drop hx
  · simp [hv]
end Go.Proofs.Tryd
end
section
namespace Go.Proofs.Tryd
open Go Go.AM
attribute [local simp] wpG_op wpG_nil contG_some wpG_guard guardG_v guardG_o guardG_tup gval pureOp stepG_if isPick pickG_pick pickB_b pickOK isCall step_move step_assign step_alloc step_box boxV_some step_load step_store step_binOp step_unOp step_fieldAddr faV step_indexAddr ixA_slc ixA_arr step_extract extV_tup step_nilCheck ncV_ptr ncV_rp ncV_fn ncV_mp step_build buildV step_buildSlice bsV step_index ixV_arr ixV_str step_append apB step_makeSlice msV_i step_makeFunc over step_len step_makeMap mmV step_mapUpdate step_insert muA_map muB_mp step_lookup lkA_map lkB_mp step_slice slcV_s slcV_sl slcV_ro cutB_some slObV_arr bound_none bound_some bndV_i lenB_str lenB_ro lenB_sl lenB_nil lenB_z ld_ptr ld_rp offV_ptr offV_rp idxV_ro idxV_sl unV_not unV_neg binV_int binV_str binV_eqlb binV_neqb intOp strOp St.put updL setOb St.ev toV St.lk cellsOf AM.valOf TK.agg stv fillV places TI.zero condT_true condT_false finS resL resSlot packV ren ren1 ren0 Value.cells builtinV appendV elemsOf keepT room_of wrap_in toIdx passed Function.comp_def take_len_map lenV touchOf hid tab1 tab2 tab3 tab4 tab5 tab6 tab7 tab8 tab9 tab10 tab11 tab12 tab13 tab14 tab15 tab16 tab17 tab18 tab19 tab20 tab21 tab22 tab23 tab24 tab25 tab26 tab27 tab28 tab29 tab30 tab31 tab32 tab33 tab34 tab35 tab36 tab37 tab38 tab39 tab40 tab41 tab42 tab43 tab44 tab45 tab46 tab47 tab48 tab49 tab50 tab51 tab52 tab53 tab54 tab55 tab57 tab58 tab59 tab61 tab62 tab63 tab64 tab65 tab66 tab67 tab68 tab69 tab70 tab71 tab72 tab73 tab74 tab75 tab76 tab77 tab78 tab79 tab80 tab81 tab82 tab83 tab84 tab85 tab86 tab87 tab88 tab89 tab90 tab91 tab92 tab93 tab94 tab95 tab96 tab97 tab98 tab99 tab100 tab101 tab103 tab104 tab105 tab106 tab107 tab108 tab109 tab110 tab111 tab112 tab113 tab114 tab115 tab116 tab117 tab118 tab119 tab120 tab121 tab122 tab123 tab124 tab125 tab126 tab127 tab128 tab129 tab130 tab131 tab132 tab133 tab135 tab137 tab138 tab140 tab141 tab142 tab143 tab144 tab145 tab146 tab147 tab148 tab149 tab150 tab151 tab152 tab153 tab155 tab156 tab157 tab158 tab159 tab160 tab161 tab162 tab163 tab164 tab165 tab166 tab167 tab168 tab170 tab171 tab172 tab173 tab174 tab175 tab176 tab177 tab178 tab179 tab180 tab181 tab182 tab186 tab187 tab188 tab189 tab190 tab191 tab192 tab193 tab194 tab195 armC_eq blockC_eq bodyC_eq enumC_eq fieldC_eq fnC_eq inC_eq localC_eq mirBodyC_eq operC_eq placeC_eq rvC_eq sourceC_eq spotC_eq stepC_eq stmtC_eq structC_eq tmC_eq tyC_eq useC_eq valueC_eq variantC_eq cutL_nil cutL_junk cutL_cons ren_arr ren_gone ren_unborn ren_var ren_row step_convert cvV_i cvV_sl cvV_s cvK_slc cvE_u8 bytesOf bor1 bor2 bor3 bor4
set_option linter.unusedSimpArgs false
set_option linter.unusedVariables false
set_option maxRecDepth 10000
set_option maxHeartbeats 4000000
noncomputable section
set_option linter.unusedVariables false
theorem rd_TyD (k : Nat) (xs : List V) (h : shpW tab k 54 xs) : ∃ x : TyD, xs = tyC x ∧ True := by
  obtain ⟨yss, h1, h2, k', hk, h3⟩ := shpW_fields h (show (tab 54).kind = .str [(0, 51), (1, 9), (2, 52)] from rfl)
  match yss, h2 with
  | [y0, y1, y2], _ =>
    obtain ⟨a0, rfl, b0⟩ := shpW_int (h3 0 _ _ rfl rfl) (show (tab 51).kind = .int .i64 from rfl)
    obtain ⟨a1, rfl, b1⟩ := shpW_str (h3 1 _ _ rfl rfl) (show (tab 9).kind = .string from rfl)
    obtain ⟨a2, rfl, b2, c2⟩ := shpW_slc tyC (fun x => True) (h3 2 _ _ rfl rfl) (show (tab 52).kind = .slc 54 from rfl) (fun k _ l hl => rd_TyD k l hl)
    exact ⟨⟨a0, a1, a2⟩, by rw [h1]; simp [tyC_eq], trivial⟩
termination_by k
decreasing_by all_goals omega

theorem rd_FieldD (k : Nat) (xs : List V) (h : shpW tab k 112 xs) : ∃ x : FieldD, xs = fieldC x ∧ True := by
  obtain ⟨yss, h1, h2, k', hk, h3⟩ := shpW_fields h (show (tab 112).kind = .str [(0, 9), (1, 54)] from rfl)
  match yss, h2 with
  | [y0, y1], _ =>
    obtain ⟨a0, rfl, b0⟩ := shpW_str (h3 0 _ _ rfl rfl) (show (tab 9).kind = .string from rfl)
    obtain ⟨a1, rfl, b1⟩ := rd_TyD _ _ (h3 1 _ _ rfl rfl)
    exact ⟨⟨a0, a1⟩, by rw [h1]; simp [fieldC_eq], trivial⟩

theorem rd_StructD (k : Nat) (xs : List V) (h : shpW tab k 72 xs) : ∃ x : StructD, xs = structC x ∧ x.fields.length ≤ 2199023255551 := by
  obtain ⟨yss, h1, h2, k', hk, h3⟩ := shpW_fields h (show (tab 72).kind = .str [(0, 9), (1, 4), (2, 70), (3, 3)] from rfl)
  match yss, h2 with
  | [y0, y1, y2, y3], _ =>
    obtain ⟨a0, rfl, b0⟩ := shpW_str (h3 0 _ _ rfl rfl) (show (tab 9).kind = .string from rfl)
    obtain ⟨a1, rfl⟩ := shpW_bool (h3 1 _ _ rfl rfl) (show (tab 4).kind = .bool from rfl)
    obtain ⟨a2, rfl, b2, c2⟩ := shpW_slc fieldC (fun x => True) (h3 2 _ _ rfl rfl) (show (tab 70).kind = .slc 112 from rfl) (fun k _ l hl => rd_FieldD k l hl)
    obtain ⟨a3, rfl, b3⟩ := shpW_int (h3 3 _ _ rfl rfl) (show (tab 3).kind = .int .i64 from rfl)
    exact ⟨⟨a0, a1, a2, a3⟩, by rw [h1]; simp [structC_eq], (show a2.length ≤ 2199023255551 by have := c2; rw [show (tab 112).bytes = 64 from rfl] at this; unfold reachBytes at this; omega)⟩

theorem rd_VariantD (k : Nat) (xs : List V) (h : shpW tab k 77 xs) : ∃ x : VariantD, xs = variantC x ∧ True := by
  obtain ⟨yss, h1, h2, k', hk, h3⟩ := shpW_fields h (show (tab 77).kind = .str [(0, 9), (1, 54)] from rfl)
  match yss, h2 with
  | [y0, y1], _ =>
    obtain ⟨a0, rfl, b0⟩ := shpW_str (h3 0 _ _ rfl rfl) (show (tab 9).kind = .string from rfl)
    obtain ⟨a1, rfl, b1⟩ := rd_TyD _ _ (h3 1 _ _ rfl rfl)
    exact ⟨⟨a0, a1⟩, by rw [h1]; simp [variantC_eq], trivial⟩

theorem rd_EnumD (k : Nat) (xs : List V) (h : shpW tab k 75 xs) : ∃ x : EnumD, xs = enumC x ∧ True := by
  obtain ⟨yss, h1, h2, k', hk, h3⟩ := shpW_fields h (show (tab 75).kind = .str [(0, 9), (1, 73), (2, 3)] from rfl)
  match yss, h2 with
  | [y0, y1, y2], _ =>
    obtain ⟨a0, rfl, b0⟩ := shpW_str (h3 0 _ _ rfl rfl) (show (tab 9).kind = .string from rfl)
    obtain ⟨a1, rfl, b1, c1⟩ := shpW_slc variantC (fun x => True) (h3 1 _ _ rfl rfl) (show (tab 73).kind = .slc 77 from rfl) (fun k _ l hl => rd_VariantD k l hl)
    obtain ⟨a2, rfl, b2⟩ := shpW_int (h3 2 _ _ rfl rfl) (show (tab 3).kind = .int .i64 from rfl)
    exact ⟨⟨a0, a1, a2⟩, by rw [h1]; simp [enumC_eq], trivial⟩

theorem rd_StepD (k : Nat) (xs : List V) (h : shpW tab k 195 xs) : ∃ x : StepD, xs = stepC x ∧ True := by
  obtain ⟨yss, h1, h2, k', hk, h3⟩ := shpW_fields h (show (tab 195).kind = .str [(0, 9)] from rfl)
  match yss, h2 with
  | [y0], _ =>
    obtain ⟨a0, rfl, b0⟩ := shpW_str (h3 0 _ _ rfl rfl) (show (tab 9).kind = .string from rfl)
    exact ⟨⟨a0⟩, by rw [h1]; simp [stepC_eq], trivial⟩

theorem rd_PlaceD (k : Nat) (xs : List V) (h : shpW tab k 116 xs) : ∃ x : PlaceD, xs = placeC x ∧ True := by
  obtain ⟨yss, h1, h2, k', hk, h3⟩ := shpW_fields h (show (tab 116).kind = .str [(0, 9), (1, 114)] from rfl)
  match yss, h2 with
  | [y0, y1], _ =>
    obtain ⟨a0, rfl, b0⟩ := shpW_str (h3 0 _ _ rfl rfl) (show (tab 9).kind = .string from rfl)
    obtain ⟨a1, rfl, b1, c1⟩ := shpW_slc stepC (fun x => True) (h3 1 _ _ rfl rfl) (show (tab 114).kind = .slc 195 from rfl) (fun k _ l hl => rd_StepD k l hl)
    exact ⟨⟨a0, a1⟩, by rw [h1]; simp [placeC_eq], trivial⟩

theorem rd_OperD (k : Nat) (xs : List V) (h : shpW tab k 121 xs) : ∃ x : OperD, xs = operC x ∧ True := by
  obtain ⟨yss, h1, h2, k', hk, h3⟩ := shpW_fields h (show (tab 121).kind = .str [(0, 4), (1, 3), (2, 116)] from rfl)
  match yss, h2 with
  | [y0, y1, y2], _ =>
    obtain ⟨a0, rfl⟩ := shpW_bool (h3 0 _ _ rfl rfl) (show (tab 4).kind = .bool from rfl)
    obtain ⟨a1, rfl, b1⟩ := shpW_int (h3 1 _ _ rfl rfl) (show (tab 3).kind = .int .i64 from rfl)
    obtain ⟨a2, rfl, b2⟩ := rd_PlaceD _ _ (h3 2 _ _ rfl rfl)
    exact ⟨⟨a0, a1, a2⟩, by rw [h1]; simp [operC_eq], trivial⟩

theorem rd_RvD (k : Nat) (xs : List V) (h : shpW tab k 119 xs) : ∃ x : RvD, xs = rvC x ∧ True := by
  obtain ⟨yss, h1, h2, k', hk, h3⟩ := shpW_fields h (show (tab 119).kind = .str [(0, 41), (1, 117), (2, 116), (4, 9), (5, 9)] from rfl)
  match yss, h2 with
  | [y0, y1, y2, y3, y4], _ =>
    obtain ⟨a0, rfl, b0⟩ := shpW_int (h3 0 _ _ rfl rfl) (show (tab 41).kind = .int .i64 from rfl)
    obtain ⟨a1, rfl, b1, c1⟩ := shpW_slc operC (fun x => True) (h3 1 _ _ rfl rfl) (show (tab 117).kind = .slc 121 from rfl) (fun k _ l hl => rd_OperD k l hl)
    obtain ⟨a2, rfl, b2⟩ := rd_PlaceD _ _ (h3 2 _ _ rfl rfl)
    obtain ⟨a3, rfl, b3⟩ := shpW_str (h3 3 _ _ rfl rfl) (show (tab 9).kind = .string from rfl)
    obtain ⟨a4, rfl, b4⟩ := shpW_str (h3 4 _ _ rfl rfl) (show (tab 9).kind = .string from rfl)
    exact ⟨⟨a0, a1, a2, a3, a4⟩, by rw [h1]; simp [rvC_eq], trivial⟩

mutual
theorem rd_ArmD (k : Nat) (xs : List V) (h : shpW tab k 126 xs) : ∃ x : ArmD, xs = armC x ∧ True := by
  obtain ⟨yss, h1, h2, k', hk, h3⟩ := shpW_fields h (show (tab 126).kind = .str [(0, 9), (1, 9), (2, 78)] from rfl)
  match yss, h2 with
  | [y0, y1, y2], _ =>
    obtain ⟨a0, rfl, b0⟩ := shpW_str (h3 0 _ _ rfl rfl) (show (tab 9).kind = .string from rfl)
    obtain ⟨a1, rfl, b1⟩ := shpW_str (h3 1 _ _ rfl rfl) (show (tab 9).kind = .string from rfl)
    obtain ⟨a2, rfl, b2, c2⟩ := shpW_slc stmtC (fun x => True) (h3 2 _ _ rfl rfl) (show (tab 78).kind = .slc 124 from rfl) (fun k _ l hl => rd_StmtD k l hl)
    exact ⟨⟨a0, a1, a2⟩, by rw [h1]; simp [armC_eq], trivial⟩
termination_by k
decreasing_by all_goals omega

theorem rd_StmtD (k : Nat) (xs : List V) (h : shpW tab k 124 xs) : ∃ x : StmtD, xs = stmtC x ∧ True := by
  obtain ⟨yss, h1, h2, k', hk, h3⟩ := shpW_fields h (show (tab 124).kind = .str [(0, 113), (1, 3), (2, 9), (3, 54), (6, 116), (8, 119), (14, 121), (18, 78), (19, 78), (20, 122)] from rfl)
  match yss, h2 with
  | [y0, y1, y2, y3, y4, y5, y6, y7, y8, y9], _ =>
    obtain ⟨a0, rfl, b0⟩ := shpW_int (h3 0 _ _ rfl rfl) (show (tab 113).kind = .int .i64 from rfl)
    obtain ⟨a1, rfl, b1⟩ := shpW_int (h3 1 _ _ rfl rfl) (show (tab 3).kind = .int .i64 from rfl)
    obtain ⟨a2, rfl, b2⟩ := shpW_str (h3 2 _ _ rfl rfl) (show (tab 9).kind = .string from rfl)
    obtain ⟨a3, rfl, b3⟩ := rd_TyD _ _ (h3 3 _ _ rfl rfl)
    obtain ⟨a4, rfl, b4⟩ := rd_PlaceD _ _ (h3 4 _ _ rfl rfl)
    obtain ⟨a5, rfl, b5⟩ := rd_RvD _ _ (h3 5 _ _ rfl rfl)
    obtain ⟨a6, rfl, b6⟩ := rd_OperD _ _ (h3 6 _ _ rfl rfl)
    obtain ⟨a7, rfl, b7, c7⟩ := shpW_slc stmtC (fun x => True) (h3 7 _ _ rfl rfl) (show (tab 78).kind = .slc 124 from rfl) (fun k _ l hl => rd_StmtD k l hl)
    obtain ⟨a8, rfl, b8, c8⟩ := shpW_slc stmtC (fun x => True) (h3 8 _ _ rfl rfl) (show (tab 78).kind = .slc 124 from rfl) (fun k _ l hl => rd_StmtD k l hl)
    obtain ⟨a9, rfl, b9, c9⟩ := shpW_slc armC (fun x => True) (h3 9 _ _ rfl rfl) (show (tab 122).kind = .slc 126 from rfl) (fun k _ l hl => rd_ArmD k l hl)
    exact ⟨⟨a0, a1, a2, a3, a4, a5, a6, a7, a8, a9⟩, by rw [h1]; simp [stmtC_eq], trivial⟩
termination_by k
decreasing_by all_goals omega
end

theorem rd_FnD (k : Nat) (xs : List V) (h : shpW tab k 80 xs) : ∃ x : FnD, xs = fnC x ∧ x.params.length ≤ 2199023255551 := by
  obtain ⟨yss, h1, h2, k', hk, h3⟩ := shpW_fields h (show (tab 80).kind = .str [(0, 9), (1, 70), (2, 78), (3, 3)] from rfl)
  match yss, h2 with
  | [y0, y1, y2, y3], _ =>
    obtain ⟨a0, rfl, b0⟩ := shpW_str (h3 0 _ _ rfl rfl) (show (tab 9).kind = .string from rfl)
    obtain ⟨a1, rfl, b1, c1⟩ := shpW_slc fieldC (fun x => True) (h3 1 _ _ rfl rfl) (show (tab 70).kind = .slc 112 from rfl) (fun k _ l hl => rd_FieldD k l hl)
    obtain ⟨a2, rfl, b2, c2⟩ := shpW_slc stmtC (fun x => True) (h3 2 _ _ rfl rfl) (show (tab 78).kind = .slc 124 from rfl) (fun k _ l hl => rd_StmtD k l hl)
    obtain ⟨a3, rfl, b3⟩ := shpW_int (h3 3 _ _ rfl rfl) (show (tab 3).kind = .int .i64 from rfl)
    exact ⟨⟨a0, a1, a2, a3⟩, by rw [h1]; simp [fnC_eq], (show a1.length ≤ 2199023255551 by have := c1; rw [show (tab 112).bytes = 64 from rfl] at this; unfold reachBytes at this; omega)⟩

theorem rd_SourceD (k : Nat) (xs : List V) (h : shpW tab k 26 xs) : ∃ x : SourceD, xs = sourceC x ∧ SrcOK x := by
  obtain ⟨yss, h1, h2, k', hk, h3⟩ := shpW_fields h (show (tab 26).kind = .str [(0, 22), (1, 23), (2, 24)] from rfl)
  match yss, h2 with
  | [y0, y1, y2], _ =>
    obtain ⟨a0, rfl, b0, c0⟩ := shpW_slc structC (fun x => x.fields.length ≤ 2199023255551) (h3 0 _ _ rfl rfl) (show (tab 22).kind = .slc 72 from rfl) (fun k _ l hl => rd_StructD k l hl)
    obtain ⟨a1, rfl, b1, c1⟩ := shpW_slc enumC (fun x => True) (h3 1 _ _ rfl rfl) (show (tab 23).kind = .slc 75 from rfl) (fun k _ l hl => rd_EnumD k l hl)
    obtain ⟨a2, rfl, b2, c2⟩ := shpW_slc fnC (fun x => x.params.length ≤ 2199023255551) (h3 2 _ _ rfl rfl) (show (tab 24).kind = .slc 80 from rfl) (fun k _ l hl => rd_FnD k l hl)
    exact ⟨⟨a0, a1, a2⟩, by rw [h1]; simp [sourceC_eq], ⟨b0, b2⟩⟩

theorem rd_LocalD (k : Nat) (xs : List V) (h : shpW tab k 68 xs) : ∃ x : LocalD, xs = localC x ∧ True := by
  obtain ⟨yss, h1, h2, k', hk, h3⟩ := shpW_fields h (show (tab 68).kind = .str [(0, 9), (1, 54)] from rfl)
  match yss, h2 with
  | [y0, y1], _ =>
    obtain ⟨a0, rfl, b0⟩ := shpW_str (h3 0 _ _ rfl rfl) (show (tab 9).kind = .string from rfl)
    obtain ⟨a1, rfl, b1⟩ := rd_TyD _ _ (h3 1 _ _ rfl rfl)
    exact ⟨⟨a0, a1⟩, by rw [h1]; simp [localC_eq], trivial⟩

theorem rd_SpotD (k : Nat) (xs : List V) (h : shpW tab k 38 xs) : ∃ x : SpotD, xs = spotC x ∧ True := by
  obtain ⟨yss, h1, h2, k', hk, h3⟩ := shpW_fields h (show (tab 38).kind = .str [(0, 3), (1, 36)] from rfl)
  match yss, h2 with
  | [y0, y1], _ =>
    obtain ⟨a0, rfl, b0⟩ := shpW_int (h3 0 _ _ rfl rfl) (show (tab 3).kind = .int .i64 from rfl)
    obtain ⟨a1, rfl, b1, c1⟩ := shpW_slc (fun z : Int => [V.i .i64 z]) (fun _ => True) (h3 1 _ _ rfl rfl) (show (tab 36).kind = .slc 3 from rfl) (fun k _ l hl => by obtain ⟨m, h, _⟩ := shpW_int hl (show (tab 3).kind = .int .i64 from rfl); exact ⟨m, h, trivial⟩)
    exact ⟨⟨a0, a1⟩, by rw [h1]; simp [spotC_eq], trivial⟩

theorem rd_UseD (k : Nat) (xs : List V) (h : shpW tab k 40 xs) : ∃ x : UseD, xs = useC x ∧ True := by
  obtain ⟨yss, h1, h2, k', hk, h3⟩ := shpW_fields h (show (tab 40).kind = .str [(0, 4), (1, 3), (2, 4), (3, 38)] from rfl)
  match yss, h2 with
  | [y0, y1, y2, y3], _ =>
    obtain ⟨a0, rfl⟩ := shpW_bool (h3 0 _ _ rfl rfl) (show (tab 4).kind = .bool from rfl)
    obtain ⟨a1, rfl, b1⟩ := shpW_int (h3 1 _ _ rfl rfl) (show (tab 3).kind = .int .i64 from rfl)
    obtain ⟨a2, rfl⟩ := shpW_bool (h3 2 _ _ rfl rfl) (show (tab 4).kind = .bool from rfl)
    obtain ⟨a3, rfl, b3⟩ := rd_SpotD _ _ (h3 3 _ _ rfl rfl)
    exact ⟨⟨a0, a1, a2, a3⟩, by rw [h1]; simp [useC_eq], trivial⟩

theorem rd_ValueD (k : Nat) (xs : List V) (h : shpW tab k 44 xs) : ∃ x : ValueD, xs = valueC x ∧ True := by
  obtain ⟨yss, h1, h2, k', hk, h3⟩ := shpW_fields h (show (tab 44).kind = .str [(0, 41), (1, 42), (2, 38), (4, 3), (5, 3)] from rfl)
  match yss, h2 with
  | [y0, y1, y2, y3, y4], _ =>
    obtain ⟨a0, rfl, b0⟩ := shpW_int (h3 0 _ _ rfl rfl) (show (tab 41).kind = .int .i64 from rfl)
    obtain ⟨a1, rfl, b1, c1⟩ := shpW_slc useC (fun x => True) (h3 1 _ _ rfl rfl) (show (tab 42).kind = .slc 40 from rfl) (fun k _ l hl => rd_UseD k l hl)
    obtain ⟨a2, rfl, b2⟩ := rd_SpotD _ _ (h3 2 _ _ rfl rfl)
    obtain ⟨a3, rfl, b3⟩ := shpW_int (h3 3 _ _ rfl rfl) (show (tab 3).kind = .int .i64 from rfl)
    obtain ⟨a4, rfl, b4⟩ := shpW_int (h3 4 _ _ rfl rfl) (show (tab 3).kind = .int .i64 from rfl)
    exact ⟨⟨a0, a1, a2, a3, a4⟩, by rw [h1]; simp [valueC_eq], trivial⟩

theorem rd_InD (k : Nat) (xs : List V) (h : shpW tab k 85 xs) : ∃ x : InD, xs = inC x ∧ True := by
  obtain ⟨yss, h1, h2, k', hk, h3⟩ := shpW_fields h (show (tab 85).kind = .str [(0, 83), (1, 3), (2, 38), (4, 44), (10, 40)] from rfl)
  match yss, h2 with
  | [y0, y1, y2, y3, y4], _ =>
    obtain ⟨a0, rfl, b0⟩ := shpW_int (h3 0 _ _ rfl rfl) (show (tab 83).kind = .int .i64 from rfl)
    obtain ⟨a1, rfl, b1⟩ := shpW_int (h3 1 _ _ rfl rfl) (show (tab 3).kind = .int .i64 from rfl)
    obtain ⟨a2, rfl, b2⟩ := rd_SpotD _ _ (h3 2 _ _ rfl rfl)
    obtain ⟨a3, rfl, b3⟩ := rd_ValueD _ _ (h3 3 _ _ rfl rfl)
    obtain ⟨a4, rfl, b4⟩ := rd_UseD _ _ (h3 4 _ _ rfl rfl)
    exact ⟨⟨a0, a1, a2, a3, a4⟩, by rw [h1]; simp [inC_eq], trivial⟩

theorem rd_TmD (k : Nat) (xs : List V) (h : shpW tab k 46 xs) : ∃ x : TmD, xs = tmC x ∧ True := by
  obtain ⟨yss, h1, h2, k', hk, h3⟩ := shpW_fields h (show (tab 46).kind = .str [(0, 35), (1, 3), (2, 38), (4, 44), (10, 40), (15, 36)] from rfl)
  match yss, h2 with
  | [y0, y1, y2, y3, y4, y5], _ =>
    obtain ⟨a0, rfl, b0⟩ := shpW_int (h3 0 _ _ rfl rfl) (show (tab 35).kind = .int .i64 from rfl)
    obtain ⟨a1, rfl, b1⟩ := shpW_int (h3 1 _ _ rfl rfl) (show (tab 3).kind = .int .i64 from rfl)
    obtain ⟨a2, rfl, b2⟩ := rd_SpotD _ _ (h3 2 _ _ rfl rfl)
    obtain ⟨a3, rfl, b3⟩ := rd_ValueD _ _ (h3 3 _ _ rfl rfl)
    obtain ⟨a4, rfl, b4⟩ := rd_UseD _ _ (h3 4 _ _ rfl rfl)
    obtain ⟨a5, rfl, b5, c5⟩ := shpW_slc (fun z : Int => [V.i .i64 z]) (fun _ => True) (h3 5 _ _ rfl rfl) (show (tab 36).kind = .slc 3 from rfl) (fun k _ l hl => by obtain ⟨m, h, _⟩ := shpW_int hl (show (tab 3).kind = .int .i64 from rfl); exact ⟨m, h, trivial⟩)
    exact ⟨⟨a0, a1, a2, a3, a4, a5⟩, by rw [h1]; simp [tmC_eq], trivial⟩

theorem rd_BlockD (k : Nat) (xs : List V) (h : shpW tab k 49 xs) : ∃ x : BlockD, xs = blockC x ∧ x.ins.length ≤ 764877654082 := by
  obtain ⟨yss, h1, h2, k', hk, h3⟩ := shpW_fields h (show (tab 49).kind = .str [(0, 47), (1, 46)] from rfl)
  match yss, h2 with
  | [y0, y1], _ =>
    obtain ⟨a0, rfl, b0, c0⟩ := shpW_slc inC (fun x => True) (h3 0 _ _ rfl rfl) (show (tab 47).kind = .slc 85 from rfl) (fun k _ l hl => rd_InD k l hl)
    obtain ⟨a1, rfl, b1⟩ := rd_TmD _ _ (h3 1 _ _ rfl rfl)
    exact ⟨⟨a0, a1⟩, by rw [h1]; simp [blockC_eq], (show a0.length ≤ 764877654082 by have := c0; rw [show (tab 85).bytes = 184 from rfl] at this; unfold reachBytes at this; omega)⟩

theorem rd_BodyD (k : Nat) (xs : List V) (h : shpW tab k 30 xs) : ∃ x : BodyD, xs = bodyC x ∧ x.blocks.length ≤ 606627104962 ∧ ∀ y ∈ x.blocks, y.ins.length ≤ 764877654082 := by
  obtain ⟨yss, h1, h2, k', hk, h3⟩ := shpW_fields h (show (tab 30).kind = .str [(0, 9), (1, 3), (2, 27), (3, 28)] from rfl)
  match yss, h2 with
  | [y0, y1, y2, y3], _ =>
    obtain ⟨a0, rfl, b0⟩ := shpW_str (h3 0 _ _ rfl rfl) (show (tab 9).kind = .string from rfl)
    obtain ⟨a1, rfl, b1⟩ := shpW_int (h3 1 _ _ rfl rfl) (show (tab 3).kind = .int .i64 from rfl)
    obtain ⟨a2, rfl, b2, c2⟩ := shpW_slc localC (fun x => True) (h3 2 _ _ rfl rfl) (show (tab 27).kind = .slc 68 from rfl) (fun k _ l hl => rd_LocalD k l hl)
    obtain ⟨a3, rfl, b3, c3⟩ := shpW_slc blockC (fun x => x.ins.length ≤ 764877654082) (h3 3 _ _ rfl rfl) (show (tab 28).kind = .slc 49 from rfl) (fun k _ l hl => rd_BlockD k l hl)
    exact ⟨⟨a0, a1, a2, a3⟩, by rw [h1]; simp [bodyC_eq], ⟨(show a3.length ≤ 606627104962 by have := c3; rw [show (tab 49).bytes = 232 from rfl] at this; unfold reachBytes at this; omega), b3⟩⟩
end
end Go.Proofs.Tryd
end
section
namespace Go.Proofs.YtakfpmogpnoibaaDoor
open Go.ChangeShapes Go.WideShapes Go.ChangeAt Go.RowKit Go.AM Go.Proofs.Tryd

theorem ownKnobNone : ownKnob Tryd.prog.godebug = none := by kernel_rfl
theorem laidOutAll : laidOutB Tryd.prog = true := by kernel_rfl
def readT : List TypeId := [3, 4, 9, 22, 23, 24, 26, 27, 28, 30, 35, 36, 38, 40, 41, 42, 44, 46, 47, 49, 51, 52, 54, 68, 70, 72, 73, 75, 77, 78, 80, 83, 85, 112, 113, 114, 116, 117, 119, 121, 122, 124, 126, 195]
theorem readT_closed : closedS tab readT = true := by decide +kernel

theorem gokOf {W : World} {L : List (String × DataW Unit)} (hL : L.drop 2 = [("internal/strconv.uint64pow10", Lib.tabData .u64 Lib.pow10Tab)])
    (hp : (L.all fun x => x.2.handleName?.isNone) = true) (h : laidMetH Tryd.prog L W) : GOK Tryd.prog W (fun _ => False) := by
  rw [MakeChecks.laidMetH_plain _ _ _ hp] at h
  obtain ⟨a, b, rfl⟩ : ∃ a b, L = [a, b, ("internal/strconv.uint64pow10", Lib.tabData .u64 Lib.pow10Tab)] := by
    match L, hL with
    | a :: b :: r, hL => exact ⟨a, b, by rw [show r = _ from hL]⟩
  have h1 := Lib.tabIs_of_head (g := 1) (t := 173) (e := 166) (n := 20) (by kernel_rfl) (by kernel_rfl) (by kernel_rfl) (by kernel_rfl) (by kernel_rfl) (by kernel_rfl) (laidMet.tail (laidMet.tail h))
  intro e he
  obtain rfl := List.mem_singleton.1 he
  refine ⟨h1, fun g hg => ⟨?_, not_false⟩⟩
  unfold Lib.TabIs World.var? at h1
  rw [hg] at h1
  simp only [Option.bind_some] at h1
  rcases Nat.lt_or_ge g W.heap.size with h' | h'
  · exact h'
  · rw [Array.getElem?_eq_none h'] at h1; cases h1
end Go.Proofs.YtakfpmogpnoibaaDoor
end
section
namespace Go.Proofs.YtakfpmogpnoibaaDoor
open Go.ChangeShapes Go.WideShapes Go.ChangeAt Go.RowKit Go.AM Go.Proofs.Tryd

set_option maxRecDepth 100000 in
theorem mirMoreLifted (HQ : ∀ (xs0 : List V) (xs1 : List V) (z2 : Int) (z3 : Int) (n0 : Nat) (n1 : Nat), shpW tab n0 26 xs0 → shpW tab n1 30 xs1 → (Lit.int .i64 z2).wf = true → (Lit.int .i64 z3).wf = true → QC Tryd.prog 3 [.agg xs0, .agg xs1, .i .i64 z2, .i .i64 z3] [] (.b true) []) (os : Os) (started : os.Started) (H : Type) (enc : TypeId × Value → H) :
    ReturnsInHanded {} Tryd.checked os 3 .any (fun w args => (Rows.mirMoreSpec.pre enc Tryd.prog Tryd.f3 Rows.mirMoreRow.domain false w args ∧ laidMetH Tryd.prog Rows.mirMoreRow.laid w) ∧ sizedMet enc Tryd.prog Tryd.f3 (OpenSpec.ofChange Rows.mirMoreSpec) false w args)
      (Rows.mirMoreSpec.post enc Tryd.prog Tryd.f3 false true false false) := by
  refine returnsInHanded_of_change_and (C := Tryd.checked) (X := fun w _ => laidMetH Tryd.prog Rows.mirMoreRow.laid w) (fun _ _ _ hh h => h.of_heap hh) ownKnobNone started (by kernel_rfl) Tryd.func3
    (ChangeSpec.witness_shaped (enc := enc) (C := Tryd.checked) (os := os) (X := fun w _ => laidMetH Tryd.prog Rows.mirMoreRow.laid w) false (World.laidAll Tryd.prog os Rows.mirMoreRow.laid) #[.agg #[.slice none 0 0, .slice none 0 0, .slice none 0 0], .agg #[.string ⟨#[]⟩, .int .i64 0, .slice none 0 0, .slice none 0 0], .int .i64 0, .int .i64 0] 8 (World.laidAll_os _ _ _)
      (World.shaped_of_ZipB (by kernel_rfl) (by kernel_rfl)) (by kernel_rfl) (by kernel_rfl) (by kernel_rfl)
      (by rw [MakeChecks.laidMetH_plain _ _ _ (by kernel_rfl)]; exact laidMet_laidAll _ (by kernel_rfl) (by kernel_rfl))) ?_
  intro W base args ds gs before hval0 hW _ hwt hL _
  have hval : ∀ (j : Nat) t v, Tryd.f3.params[j]? = some t → args[j]? = some v → Value.okWide Tryd.prog W .any base t v := hval0
  have hW' := hW
  obtain ⟨p, q, hA0, hV, rfl, _, _⟩ := hW
  have hA : DataW.TrodAll enc Tryd.prog W 0 (fun _ => true) true Tryd.f3.params.toList args.toList ds p := hA0
  rw [Tryd.params3] at hA hval
  have hw : ∀ x ∈ DataW.weightsEach Tryd.prog (Tryd.f3.params.toList ++ Rows.mirMoreSpec.plain.varTypes Tryd.prog) (ds ++ gs), x ≤ reachBytes := fun x hx => of_decide_eq_true (List.all_eq_true.1 hwt x hx)
  obtain ⟨v0, v1, v2, v3, d0, d1, d2, d3, p0, p1, p2, p3, rfl, rfl, rfl, h0, h1, h2, h3⟩ := trodAll_four hA
  obtain ⟨rfl, rfl⟩ := trodVars_none hV
  rw [Tryd.params3] at hw
  have hw0 : ∀ q ∈ d0.weights Tryd.prog 26, q ≤ reachBytes := fun q hq => hw q (DataW.weights_mem_each (j := 0) rfl rfl q hq)
  have hw1 : ∀ q ∈ d1.weights Tryd.prog 30, q ≤ reachBytes := fun q hq => hw q (DataW.weights_mem_each (j := 1) rfl rfl q hq)
  obtain ⟨z2, rfl, rfl, rfl, wf2⟩ := open_int (show Tryd.prog.underlying 3 = some (.int .i64) from Tryd.underlying3) (hval 2 3 v2 rfl rfl) h2
  obtain ⟨z3, rfl, rfl, rfl, wf3⟩ := open_int (show Tryd.prog.underlying 3 = some (.int .i64) from Tryd.underlying3) (hval 3 3 v3 rfl rfl) h3
  simp only [List.append_nil] at hW'
  have hlt : ∀ x ∈ p0 ++ p1, x.block < W.heap.size := fun x hx => by simpa using hW'.lt x (by simpa using hx)
  obtain ⟨xs0, ⟨n0, hs0⟩, hr0⟩ := arg_structW tabOK (T := tab) (t := 26) (S := readT) readT_closed rfl (by decide) (hval 0 26 v0 rfl rfl) h0 hw0
  obtain ⟨xs1, ⟨n1, hs1⟩, hr1⟩ := arg_structW tabOK (T := tab) (t := 30) (S := readT) readT_closed rfl (by decide) (hval 1 30 v1 rfl rfl) h1 hw1
  refine ((HQ xs0 xs1 z2 z3 n0 n1 hs0 hs1 wf2 wf3).truth (gokOf (L := Rows.mirMoreRow.laid) (by kernel_rfl) (by kernel_rfl) hL) (vs := #[v0, v1, .int .i64 z2, .int .i64 z3]) (W := W) rfl (fun ok hok D j x u hx hu => ?_)).mono fun e W' ⟨he, hb⟩ => ?_
  · match j with
    | 0 =>
      simp only [List.getElem?_cons_succ, List.getElem?_cons_zero, Option.some.injEq] at hx
      subst hx
      obtain rfl : v0 = u := by simpa using hu
      exact hr0 ok hok D
    | 1 =>
      simp only [List.getElem?_cons_succ, List.getElem?_cons_zero, Option.some.injEq] at hx
      subst hx
      obtain rfl : v1 = u := by simpa using hu
      exact hr1 ok hok D
    | 2 =>
      simp only [List.getElem?_cons_succ, List.getElem?_cons_zero, Option.some.injEq] at hx
      subst hx
      obtain rfl : Value.int .i64 z2 = u := by simpa using hu
      exact .pure (.i _ _)
    | 3 =>
      simp only [List.getElem?_cons_succ, List.getElem?_cons_zero, Option.some.injEq] at hx
      subst hx
      obtain rfl : Value.int .i64 z3 = u := by simpa using hu
      exact .pure (.i _ _)
    | j + 4 => simp at hx
  · subst he
    refine ⟨_, rfl, _, _, _, [], p0 ++ p1, [], by simpa using hW', ?_, ?_, ?_, hb.frame _, fun h => by cases h⟩
    · exact trodAll_mk1 (shut_bool Tryd.underlying4 true)
    · have hpl : p0 ++ (p1 ++ (([] : List MemPlace) ++ (([] : List MemPlace)))) = p0 ++ p1 := by simp
      rw [← hpl]
      exact trodAll_mk4 (Below.trod laidOutAll (by kernel_rfl) (of_decide_eq_true (by kernel_rfl)) h0 hb (fun x hx => hlt x (by simp [hx]))) (Below.trod laidOutAll (by kernel_rfl) (of_decide_eq_true (by kernel_rfl)) h1 hb (fun x hx => hlt x (by simp [hx]))) (Below.trod laidOutAll (by kernel_rfl) (of_decide_eq_true (by kernel_rfl)) h2 hb (fun x hx => by cases hx)) (Below.trod laidOutAll (by kernel_rfl) (of_decide_eq_true (by kernel_rfl)) h3 hb (fun x hx => by cases hx))
    · rfl

theorem mirMoreHolds (HQ : ∀ (xs0 : List V) (xs1 : List V) (z2 : Int) (z3 : Int) (n0 : Nat) (n1 : Nat), shpW tab n0 26 xs0 → shpW tab n1 30 xs1 → (Lit.int .i64 z2).wf = true → (Lit.int .i64 z3).wf = true → QC Tryd.prog 3 [.agg xs0, .agg xs1, .i .i64 z2, .i .i64 z3] [] (.b true) []) : Rows.MirMoreSaid :=
  OpenClaim.holds_of_wide 3 Tryd.f3 rfl rfl rfl rfl rfl rfl rfl ⟨rfl, rfl, rfl, rfl, rfl⟩ rfl rfl rfl rfl rfl (by kernel_rfl) Tryd.func3 (by kernel_rfl)
    (of_decide_eq_true (by kernel_rfl)) (by unfold Func.isWrapper; rw [if_neg (by decide +kernel)]; exact ⟨rfl, rfl⟩)
    (fun os started H enc _ => mirMoreLifted HQ os started H enc)

theorem mirMoreCard (HQ : ∀ (xs0 : List V) (xs1 : List V) (z2 : Int) (z3 : Int) (n0 : Nat) (n1 : Nat), shpW tab n0 26 xs0 → shpW tab n1 30 xs1 → (Lit.int .i64 z2).wf = true → (Lit.int .i64 z3).wf = true → QC Tryd.prog 3 [.agg xs0, .agg xs1, .i .i64 z2, .i .i64 z3] [] (.b true) []) : Rows.MirMoreCardSaid :=
  Claim7.holds_tied_plain_at .later [] [.data, .data, .data] true (true, "72fb29bbc89c1b556461d9e75bc770fd806c7bd127c4eb9758c0bfee7dd84cc1") false (mirMoreHolds HQ) (fun _ h => by cases h) (by kernel_rfl) (fun _ h => by cases h) mirMore_row_tie rfl ⟨rfl, rfl⟩ (by kernel_rfl) rfl
    (fun f fn hf hfn => by
      obtain rfl : f = 3 := Option.some.inj ((show Tryd.prog.funcNamed "cocoon/cocoonlaw09.MirMore" = some 3 by kernel_rfl).symm.trans hf) |>.symm
      obtain rfl : fn = Tryd.f3 := (Option.some.inj (Tryd.func3.symm.trans hfn)).symm
      exact ⟨by kernel_rfl, fun j t ht => by
        rw [Tryd.params3] at ht
        have hm : t ∈ [26, 30, 3, 3] := by simpa using Array.mem_of_getElem? ht
        have hall : ([26, 30, 3, 3].all fun u => !Tryd.prog.wantsStandIn u) = true := by kernel_rfl
        exact (show Tryd.prog.wantsStandIn t = false by simpa using List.all_eq_true.1 hall t hm)⟩)
    (by kernel_rfl)

theorem mirMore_card : Rows.MirMoreCardSaid := mirMoreCard fun xs0 xs1 z2 z3 n0 n1 hs0 hs1 hz2 hz3 => by
  obtain ⟨s, rfl, hs⟩ := rd_SourceD n0 xs0 hs0
  obtain ⟨b, rfl, hb⟩ := rd_BodyD n1 xs1 hs1
  have h := w_lMirMore s b z2 z3 hs hb.1 hb.2
  rw [lMirMore_true _ _ _ _ hb.2] at h
  simpa [sourceC_eq, bodyC_eq] using h
end Go.Proofs.YtakfpmogpnoibaaDoor
end
