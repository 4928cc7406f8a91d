/- A spot one step further in has the type that the step tells: MirSteps, tied. No conditions. -/
import Derived.Test.YtakfpmogpnoibaaDoorTie
import Derived.Test.YtakfpmogpnoibaaDoorCards
import Derived.ProofKit
import Derived.OpenShut
import Derived.LaidMore
import Derived.Lay
import Derived.SevenTiedAt
import Derived.Stop.Joined
import Derived.Stop.LaidErr
import Derived.Test.YtakfpmogpnoibaaDoorMirD
import Derived.Test.YtakfpmogpnoibaaDoorSizA
import Derived.Test.YtakfpmogpnoibaaDoorBldA
import Derived.Test.YtakfpmogpnoibaaDoorMachD
import Derived.Test.YtakfpmogpnoibaaDoorKndA
import Derived.Test.YtakfpmogpnoibaaDoorRefA
set_option linter.unusedVariables false
set_option linter.unusedSimpArgs false
set_option linter.constructorNameAsVariable false
section
namespace Go.Proofs.Tryd
open Go Go.AM
attribute [local simp] wpG_op wpG_nil contG_some wpG_guard guardG_v guardG_o guardG_tup gval pureOp stepG_if isPick pickG_pick pickB_b pickOK isCall step_move step_assign step_alloc step_box boxV_some step_load step_store step_binOp step_unOp step_fieldAddr faV step_indexAddr ixA_slc ixA_arr step_extract extV_tup step_nilCheck ncV_ptr ncV_rp ncV_fn ncV_mp step_build buildV step_buildSlice bsV step_index ixV_arr ixV_str step_append apB step_makeSlice msV_i step_makeFunc over step_len step_makeMap mmV step_mapUpdate step_insert muA_map muB_mp step_lookup lkA_map lkB_mp step_slice slcV_s slcV_sl slcV_ro cutB_some slObV_arr bound_none bound_some bndV_i lenB_str lenB_ro lenB_sl lenB_nil lenB_z ld_ptr ld_rp offV_ptr offV_rp idxV_ro idxV_sl unV_not unV_neg binV_int binV_str binV_eqlb binV_neqb intOp strOp St.put updL setOb St.ev toV St.lk cellsOf AM.valOf TK.agg stv fillV places TI.zero condT_true condT_false finS resL resSlot packV ren ren1 ren0 Value.cells builtinV appendV elemsOf keepT room_of wrap_in toIdx passed Function.comp_def take_len_map lenV touchOf hid tab1 tab2 tab3 tab4 tab5 tab6 tab7 tab8 tab9 tab10 tab11 tab12 tab13 tab14 tab15 tab16 tab17 tab18 tab19 tab20 tab21 tab22 tab23 tab24 tab25 tab26 tab27 tab28 tab29 tab30 tab31 tab32 tab33 tab34 tab35 tab36 tab37 tab38 tab39 tab40 tab41 tab42 tab43 tab44 tab45 tab46 tab47 tab48 tab49 tab50 tab51 tab52 tab53 tab54 tab55 tab57 tab58 tab59 tab61 tab62 tab63 tab64 tab65 tab66 tab67 tab68 tab69 tab70 tab71 tab72 tab73 tab74 tab75 tab76 tab77 tab78 tab79 tab80 tab81 tab82 tab83 tab84 tab85 tab86 tab87 tab88 tab89 tab90 tab91 tab92 tab93 tab94 tab95 tab96 tab97 tab98 tab99 tab100 tab101 tab103 tab104 tab105 tab106 tab107 tab108 tab109 tab110 tab111 tab112 tab113 tab114 tab115 tab116 tab117 tab118 tab119 tab120 tab121 tab122 tab123 tab124 tab125 tab126 tab127 tab128 tab129 tab130 tab131 tab132 tab133 tab135 tab137 tab138 tab140 tab141 tab142 tab143 tab144 tab145 tab146 tab147 tab148 tab149 tab150 tab151 tab152 tab153 tab155 tab156 tab157 tab158 tab159 tab160 tab161 tab162 tab163 tab164 tab165 tab166 tab167 tab168 tab170 tab171 tab172 tab173 tab174 tab175 tab176 tab177 tab178 tab179 tab180 tab181 tab182 tab186 tab187 tab188 tab189 tab190 tab191 tab192 tab193 tab194 tab195 armC_eq blockC_eq bodyC_eq enumC_eq fieldC_eq fnC_eq inC_eq localC_eq mirBodyC_eq operC_eq placeC_eq rvC_eq sourceC_eq spotC_eq stepC_eq stmtC_eq structC_eq tmC_eq tyC_eq useC_eq valueC_eq variantC_eq cutL_nil cutL_junk cutL_cons ren_arr ren_gone ren_unborn ren_var ren_row step_convert cvV_i cvV_sl cvV_s cvK_slc cvE_u8 bytesOf bor1 bor2 bor3 bor4
set_option linter.unusedSimpArgs false
set_option linter.unusedVariables false
set_option maxRecDepth 10000
set_option maxHeartbeats 4000000
noncomputable section

def lMirUses (p0 : SourceD) (p1 : BodyD) (p2 : UseD) : Bool :=
  (if ((((zLarge p0 250) = true) ∨ ((zOver p1 250) = true)) ∨ (20 < (p2.s.path.length : Int))) ∨ (¬ ((mValid p0 p1) = true)) then true else (if p2.num = true then ((decide ((mValueF p0 p1 (ValueD.mk 0 ([p2] : List UseD) (SpotD.mk 0 ([])) 0 0)).2 = 0)) == (((!p2.move) && (decide (p2.s.local_ = 0))) && (decide ((p2.s.path.length : Int) = 0)))) else (if ¬ ((mType p0 p1 p2.s).2.2 = 0) then (decide ((mValueF p0 p1 (ValueD.mk 0 ([p2] : List UseD) (SpotD.mk 0 ([])) 0 0)).2 = 84)) else (((decide ((mValueF p0 p1 (ValueD.mk 0 ([p2] : List UseD) (SpotD.mk 0 ([])) 0 0)).2 = 0)) == (((decide (p2.n = 0)) && (!(p2.move == ((decide (((mType p0 p1 p2.s).1).k = 1)) || (decide (((mType p0 p1 p2.s).1).k = 5)))))) && ((!p2.move) || (decide ((p2.s.path.length : Int) = 0))))) && ((!(((decide (p2.n = 0)) && (!(p2.move == ((decide (((mType p0 p1 p2.s).1).k = 1)) || (decide (((mType p0 p1 p2.s).1).k = 5)))))) && ((!p2.move) || (decide ((p2.s.path.length : Int) = 0))))) || (rSameTy ((mValueF p0 p1 (ValueD.mk 0 ([p2] : List UseD) (SpotD.mk 0 ([])) 0 0)).1) ((mType p0 p1 p2.s).1)))))))
set_option maxHeartbeats 40000000 in
theorem w_lMirUses (p0 : SourceD) (p1 : BodyD) (p2 : UseD) (hs : SrcOK p0) : QC prog 5 [.agg [.ro 4 (p0.structs.map structC), .ro 3 (p0.enums.map enumC), .ro 4 (p0.fns.map fnC)], .agg [.s p1.name, .i .i64 p1.params, .ro 4 (p1.locals.map localC), .ro 17 (p1.blocks.map blockC)], .agg [.b p2.num, .i .i64 p2.n, .b p2.move, .i .i64 p2.s.local_, .ro 1 (p2.s.path.map (fun z => [.i .i64 z]))]] [] (.b (lMirUses p0 p1 p2)) [] := by
  refine QC.of_body tabOK func5 rfl (by kernel_rfl) ?_
  simp only [f5]
  generalize e : lMirUses p0 p1 p2 = R
  unfold lMirUses at e
  refine EV.seq ?_
  refine EV.regionG tabOK ?_ -- region 0
  simp (maxSteps := 2000000) -implicitDefEqProofs
  refine EV.seq ?_
  refine EV.regionG tabOK ?_ -- region 1
  simp (maxSteps := 2000000) -implicitDefEqProofs
  refine callG_fun (w_works09) ?_ ?_
  · simp
  simp (maxSteps := 2000000) -implicitDefEqProofs
  refine EV.seq ?_
  refine EV.seq ?_
  refine EV.regionG tabOK ?_ -- region 2
  simp (maxSteps := 2000000) -implicitDefEqProofs
  refine EV.condT ?_
  simp -implicitDefEqProofs
  refine EV.skip ?_
  simp only [thenK_normal, blockK_normal, scopeK_normal]
  refine EV.seq ?_
  refine EV.regionG tabOK ?_ -- region 4
  simp (maxSteps := 2000000) -implicitDefEqProofs
  refine callG_fun (w_zLarge p0 250) ?_ ?_
  · simp
  simp (maxSteps := 2000000) -implicitDefEqProofs
  refine EV.seq ?_
  refine EV.seq ?_
  refine EV.nrm (fun _ : Unit => (⟨[.junk, .junk, .junk, .ptr 0 0 0 0, .ptr 1 0 0 0, .ptr 2 0 0 0, .junk, .b true, .junk, .junk, .junk, .junk, .junk, .junk, .junk, .junk, .junk, .junk, .junk, .junk, .junk, .junk, .junk, .junk, .junk, .junk, .junk, .junk, .junk, .junk, .junk, .junk, .junk, .junk, .junk, .junk, .junk, .junk, .junk, .b ((((zLarge p0 250) || (zOver p1 250)) || (decide (20 < (p2.s.path.length : Int)))) || (!(mValid p0 p1))), .junk, .junk, .junk, .junk, .junk, .junk, .junk, .junk, .junk, .junk, .junk, .junk, .junk, .junk, .junk, .junk, .junk, .junk, .junk, .junk, .junk, .junk, .junk, .junk, .junk, .junk, .junk, .junk, .junk, .junk, .junk, .junk, .junk, .junk, .junk, .junk, .junk, .junk, .junk, .junk, .junk, .junk, .junk, .junk, .junk, .junk, .junk, .junk, .junk, .junk, .junk, .junk, .junk, .junk, .junk, .junk, .junk, .junk, .junk, .junk, .junk, .junk, .junk, .junk, .junk, .junk, .junk, .junk, .junk, .junk, .junk, .junk, .junk, .junk, .junk, .junk, .junk, .junk, .junk, .junk, .junk, .junk, .junk, .junk, .junk, .junk, .junk, .junk, .junk, .junk, .junk, .junk, .junk, .junk, .junk, .junk], [.arr 0 3 [[.ro 4 (p0.structs.map structC), .ro 3 (p0.enums.map enumC), .ro 4 (p0.fns.map fnC)]], .arr 0 4 [[.s p1.name, .i .i64 p1.params, .ro 4 (p1.locals.map localC), .ro 17 (p1.blocks.map blockC)]], .arr 0 5 [[.b p2.num, .i .i64 p2.n, .b p2.move, .i .i64 p2.s.local_, .ro 1 (p2.s.path.map (fun z => [.i .i64 z]))]]]⟩ : St)) ?_ ?_
  · skip
    cases k2 : (zLarge p0 250)
    · skip
      have kk2 := k2
      try simp at kk2
      cases k3 : (zOver p1 250)
      · skip
        have kk3 := k3
        try simp at kk3
        by_cases k4 : 20 < (p2.s.path.length : Int)
        · skip
          have kk4 := k4
          try simp at kk4
          refine EV.regionG tabOK ?_ -- region 5
          simp (maxSteps := 2000000) -implicitDefEqProofs +contextual [k2, kk2, k3, kk3, k4, kk4]
          refine callG_fun (w_zOver p1 250) ?_ ?_
          · first | (simp; done) | (simp [k2, kk2, k3, kk3, k4, kk4]; done)
          simp (maxSteps := 2000000) -implicitDefEqProofs +contextual [k2, kk2, k3, kk3, k4, kk4]
          refine ⟨(), ?_⟩
          try dsimp only
          refine Sub.cutF 3 (by simp) ?_ ?_ <;> simp [List.range_succ, toIdx_range, passed, k2, kk2, k3, kk3, k4, kk4] <;> grind
        · skip
          have kk4 := k4
          try simp at kk4
          refine EV.regionG tabOK ?_ -- region 5
          simp (maxSteps := 2000000) -implicitDefEqProofs +contextual [k2, kk2, k3, kk3, k4, kk4]
          refine callG_fun (w_zOver p1 250) ?_ ?_
          · first | (simp; done) | (simp [k2, kk2, k3, kk3, k4, kk4]; done)
          simp (maxSteps := 2000000) -implicitDefEqProofs +contextual [k2, kk2, k3, kk3, k4, kk4]
          refine callG_fun (w_mValid p0 p1 hs) ?_ ?_
          · first | (simp; done) | (simp [k2, kk2, k3, kk3, k4, kk4]; done)
          simp (maxSteps := 2000000) -implicitDefEqProofs +contextual [k2, kk2, k3, kk3, k4, kk4]
          refine ⟨(), ?_⟩
          try dsimp only
          refine Sub.cutF 3 (by simp) ?_ ?_ <;> simp [List.range_succ, toIdx_range, passed, k2, kk2, k3, kk3, k4, kk4] <;> grind
      · skip
        have kk3 := k3
        try simp at kk3
        refine EV.regionG tabOK ?_ -- region 5
        simp (maxSteps := 2000000) -implicitDefEqProofs +contextual [k2, kk2, k3, kk3]
        refine callG_fun (w_zOver p1 250) ?_ ?_
        · first | (simp; done) | (simp [k2, kk2, k3, kk3]; done)
        simp (maxSteps := 2000000) -implicitDefEqProofs +contextual [k2, kk2, k3, kk3]
        refine ⟨(), ?_⟩
        try dsimp only
        refine Sub.cutF 3 (by simp) ?_ ?_ <;> simp [List.range_succ, toIdx_range, passed, k2, kk2, k3, kk3] <;> grind
    · skip
      have kk2 := k2
      try simp at kk2
      refine EV.regionG tabOK ?_ -- region 5
      simp (maxSteps := 2000000) -implicitDefEqProofs +contextual [k2, kk2]
      refine ⟨(), ?_⟩
      try dsimp only
      refine Sub.cutF 3 (by simp) ?_ ?_ <;> simp [List.range_succ, toIdx_range, passed, k2, kk2] <;> grind
  · skip
    rintro _
    simp only [thenK_normal, blockK_normal, scopeK_normal, bodyK_normal]
    refine EV.condT ?_
    simp -implicitDefEqProofs
    refine condT_intro (fun k5 => ?_) (fun k5 => ?_)
    · try simp at k5
      obtain ⟨f5, e⟩ := pos_on2 e (by first | simpa using k5 | grind)
      try simp at f5
      refine EV.seq ?_
      refine EV.regionG tabOK ?_ -- region 6
      simp (maxSteps := 2000000) -implicitDefEqProofs
      refine EV.ret ?_
      simp only [thenK_ret, blockK_ret, scopeK_ret, bodyK_ret]
      subst e
      refine Fin.pure0 ?_
      first | (simp; done) | (simp <;> grind)
    · try simp at k5
      obtain ⟨f5, e⟩ := neg_on2 e (by first | simpa using k5 | grind)
      try simp at f5
      refine EV.skip ?_
      simp only [thenK_normal, blockK_normal, scopeK_normal]
      refine EV.seq ?_
      refine EV.regionCut tabOK 5 ?_ -- region 7
      simp (maxSteps := 2000000) -implicitDefEqProofs
      refine ⟨⟨[.junk, .junk, .junk, .ptr 0 0 0 0, .ptr 1 0 0 0, .ptr 2 0 0 0, .junk, .b true, .junk, .junk, .junk, .junk, .junk, .junk, .junk, .junk, .junk, .junk, .junk, .junk, .junk, .junk, .junk, .junk, .junk, .junk, .junk, .junk, .junk, .junk, .junk, .junk, .junk, .junk, .junk, .junk, .junk, .junk, .junk, .junk, .junk, .junk, .agg [.ro 4 (p0.structs.map structC), .ro 3 (p0.enums.map enumC), .ro 4 (p0.fns.map fnC)], .agg [.s p1.name, .i .i64 p1.params, .ro 4 (p1.locals.map localC), .ro 17 (p1.blocks.map blockC)], .junk, .junk, .agg [.i .i64 0, .ro 5 (([p2] : List UseD).map useC), .i .i64 0, .ro 1 (([] : List Int).map (fun z => [.i .i64 z])), .i .i64 0, .i .i64 0], .junk, .junk, .junk, .junk, .junk, .junk, .junk, .junk, .junk, .junk, .junk, .junk, .junk, .junk, .junk, .junk, .junk, .junk, .junk, .junk, .junk, .junk, .junk, .junk, .junk, .junk, .junk, .junk, .junk, .junk, .junk, .junk, .junk, .junk, .junk, .junk, .junk, .junk, .junk, .junk, .junk, .junk, .junk, .junk, .junk, .junk, .junk, .junk, .junk, .junk, .junk, .junk, .junk, .junk, .junk, .junk, .junk, .junk, .junk, .junk, .junk, .junk, .junk, .junk, .junk, .junk, .junk, .junk, .junk, .junk, .junk, .junk, .junk, .junk, .junk, .junk, .junk, .junk, .junk, .junk, .junk, .junk, .junk, .junk, .junk, .junk, .junk, .junk, .junk], [.arr 0 3 [[.ro 4 (p0.structs.map structC), .ro 3 (p0.enums.map enumC), .ro 4 (p0.fns.map fnC)]], .arr 0 4 [[.s p1.name, .i .i64 p1.params, .ro 4 (p1.locals.map localC), .ro 17 (p1.blocks.map blockC)]], .arr 0 5 [[.b p2.num, .i .i64 p2.n, .b p2.move, .i .i64 p2.s.local_, .ro 1 (p2.s.path.map (fun z => [.i .i64 z]))]]]⟩, ?_, ?_⟩
      · skip
        try dsimp only
        refine Sub.cutG 3 (by simp) ?_ ?_ <;> simp [allP, allR, c0, slotR, conv1, conv0, cvOb, Pu, take_len_map, List.getD, List.range_succ, toIdx_range, passed]
      simp (maxSteps := 2000000) -implicitDefEqProofs
      refine callG_fun (w_mValueF p0 p1 (ValueD.mk 0 ([p2] : List UseD) (SpotD.mk 0 ([] : List Int)) 0 0) hs) ?_ ?_
      · simp
      simp (maxSteps := 2000000) -implicitDefEqProofs
      refine EV.seq ?_
      refine EV.regionG tabOK ?_ -- region 8
      simp (maxSteps := 2000000) -implicitDefEqProofs
      refine callG_fun (w_mType p0 p1 p2.s) ?_ ?_
      · simp
      simp (maxSteps := 2000000) -implicitDefEqProofs
      refine EV.seq ?_
      refine EV.seq ?_
      refine EV.regionG tabOK ?_ -- region 9
      simp (maxSteps := 2000000) -implicitDefEqProofs
      refine EV.condT ?_
      simp -implicitDefEqProofs
      refine condT_intro (fun k6 => ?_) (fun k6 => ?_)
      · try simp at k6
        obtain ⟨f6, e⟩ := pos_on2 e (by first | simpa using k6 | grind)
        try simp at f6
        refine EV.seq ?_
        refine EV.regionG tabOK ?_ -- region 10
        simp (maxSteps := 2000000) -implicitDefEqProofs +contextual
        refine EV.ret ?_
        simp only [thenK_ret, blockK_ret, scopeK_ret, bodyK_ret]
        subst e
        refine Fin.pure0 ?_
        first | (simp; done) | (simp <;> grind)
      · try simp at k6
        obtain ⟨f6, e⟩ := neg_on2 e (by first | simpa using k6 | grind)
        try simp at f6
        refine EV.skip ?_
        simp only [thenK_normal, blockK_normal, scopeK_normal]
        refine EV.seq ?_
        refine EV.seq ?_
        refine EV.regionG tabOK ?_ -- region 11
        simp (maxSteps := 2000000) -implicitDefEqProofs
        refine EV.condT ?_
        simp -implicitDefEqProofs
        refine condT_intro (fun k7 => ?_) (fun k7 => ?_)
        · try simp at k7
          obtain ⟨f7, e⟩ := pos_on2 e (by first | simpa using k7 | grind)
          try simp at f7
          refine EV.seq ?_
          refine EV.regionG tabOK ?_ -- region 12
          simp (maxSteps := 2000000) -implicitDefEqProofs +contextual
          refine EV.ret ?_
          simp only [thenK_ret, blockK_ret, scopeK_ret, bodyK_ret]
          subst e
          refine Fin.pure0 ?_
          first | (simp; done) | (simp <;> grind)
        · try simp at k7
          obtain ⟨f7, e⟩ := neg_on2 e (by first | simpa using k7 | grind)
          try simp at f7
          refine EV.skip ?_
          simp only [thenK_normal, blockK_normal, scopeK_normal]
          refine EV.seq ?_
          refine EV.regionG tabOK ?_ -- region 13
          simp (maxSteps := 2000000) -implicitDefEqProofs +contextual
          refine EV.seq ?_
          refine EV.regionG tabOK ?_ -- region 14
          simp (maxSteps := 2000000) -implicitDefEqProofs +contextual
          refine EV.seq ?_
          refine EV.regionG tabOK ?_ -- region 15
          simp (maxSteps := 2000000) -implicitDefEqProofs
          refine callG_fun (w_rSameTy ((mValueF p0 p1 (ValueD.mk 0 ([p2] : List UseD) (SpotD.mk 0 ([] : List Int)) 0 0)).1) ((mType p0 p1 p2.s).1)) ?_ ?_
          · simp
          simp (maxSteps := 2000000) -implicitDefEqProofs
          refine EV.seq ?_
          refine EV.regionG tabOK ?_ -- region 16
          simp (maxSteps := 2000000) -implicitDefEqProofs +contextual
          refine EV.ret ?_
          simp only [thenK_ret, blockK_ret, scopeK_ret, bodyK_ret]
          subst e
          refine Fin.pure0 ?_
          first | (simp; done) | (simp <;> grind)
set_option maxHeartbeats 40000000 in
theorem w_mSpot_o (p0 : MirBodyD) (p1 : SpotD)  (oe : Nat) : QC prog 26 [.agg [.ro 4 (p0.s.structs.map structC), .ro 3 (p0.s.enums.map enumC), .ro 4 (p0.s.fns.map fnC), .s p0.b.name, .i .i64 p0.b.params, .ro 4 (p0.b.locals.map localC), .ro 17 (p0.b.blocks.map blockC)], .agg [.i .i64 p1.local_, .sl 0 oe 0 p1.path.length]] [.arr oe 1 (p1.path.map (fun z => [.i .i64 z]))] (.tup [.agg [.i .i64 (((mSpot p0 p1).1).k), .s (((mSpot p0 p1).1).name), .ro 3 ((((mSpot p0 p1).1).l).map tyC)], .b ((mSpot p0 p1).2.1), .i .i64 ((mSpot p0 p1).2.2)]) [.arr oe 1 (p1.path.map (fun z => [.i .i64 z]))] := by
  refine QC.of_body tabOK func26 rfl (by kernel_rfl) ?_
  simp only [f26]
  generalize e : mSpot p0 p1 = R
  unfold mSpot at e
  refine EV.seq ?_
  refine EV.regionG tabOK ?_ -- region 0
  simp (maxSteps := 2000000) -implicitDefEqProofs
  refine EV.seq ?_
  refine EV.seq ?_
  refine EV.regionG tabOK ?_ -- region 1
  simp (maxSteps := 2000000) -implicitDefEqProofs +contextual
  refine EV.condT ?_
  simp -implicitDefEqProofs
  refine condT_intro (fun k1 => ?_) (fun k1 => ?_)
  · try simp at k1
    obtain ⟨f1, e⟩ := pos_on2 e (by first | simpa using k1 | grind)
    try simp at f1
    refine EV.seq ?_
    refine EV.regionG tabOK ?_ -- region 2
    simp (maxSteps := 2000000) -implicitDefEqProofs
    refine EV.ret ?_
    simp only [thenK_ret, blockK_ret, scopeK_ret, bodyK_ret]
    subst e
    refine Fin.data ?_ ?_
    · simp [convV, conv1, conv0, cvOb, allP, allR, c0, Pu, take_len_map, List.getD, List.range_succ]
    · simp [List.range_succ]
  · try simp at k1
    obtain ⟨f1, e⟩ := neg_on2 e (by first | simpa using k1 | grind)
    try simp at f1
    refine EV.skip ?_
    simp only [thenK_normal, blockK_normal, scopeK_normal]
    refine EV.seq ?_
    obtain ⟨y3_5, gy3_5⟩ : ∃ z, (p0.b.locals.getD ((p1.local_).toNat) default) = z := ⟨_, rfl⟩
    replace e := bnd_on e gy3_5
    try dsimp only at e
    have b2 : 0 ≤ p1.local_ ∧ p1.local_ < (p0.b.locals.length : Int) := by omega
    have c2 : (p1.local_).toNat < p0.b.locals.length := by omega
    have hy3_5 : p0.b.locals[(p1.local_).toNat] = y3_5 := by rw [← gy3_5, List.getD_eq_getElem?_getD, List.getElem?_eq_getElem c2]; rfl
    have my3_5 : y3_5 ∈ p0.b.locals := by rw [← hy3_5]; exact List.getElem_mem _
    refine EV.regionG tabOK ?_ -- region 3
    simp (maxSteps := 2000000) -implicitDefEqProofs [b2, c2, hy3_5]
    refine EV.seq ?_
    refine EV.seq ?_
    refine EV.regionG tabOK ?_ -- region 4
    simp (maxSteps := 2000000) -implicitDefEqProofs [b2, c2, hy3_5]
    obtain ⟨z5, e5, e⟩ := run_split e
    refine EV.nrm (fun v : { v : (Bool × TyD) × (Unit) // z5 = .go v.1 } => (fun (v5 : Bool × TyD) (g5 : Unit) => (⟨[.junk, .junk, .junk, .junk, .ptr 3 0 0 0, .junk, .junk, .ptr 4 0 0 0, .b v5.1, .junk, .junk, .junk, .junk, .junk, .junk, .junk, .junk, .junk, .junk, .junk, .junk, .junk, .junk, .junk, .junk, .junk, .junk, .junk, .junk, .junk, .junk, .junk, .junk, .junk, .junk, .junk, .junk, .junk, .junk, .junk, .junk, .junk, .junk, .junk, .junk, .junk, .junk, .junk, .junk, .junk, .junk, .junk, .junk, .junk, .junk, .junk, .junk, .junk, .junk, .junk, .junk, .junk, .junk, .junk, .junk], [.arr oe 1 (p1.path.map (fun z => [.i .i64 z])), .arr 0 7 [[.ro 4 (p0.s.structs.map structC), .ro 3 (p0.s.enums.map enumC), .ro 4 (p0.s.fns.map fnC), .s p0.b.name, .i .i64 p0.b.params, .ro 4 (p0.b.locals.map localC), .ro 17 (p0.b.blocks.map blockC)]], .arr 0 2 [[.i .i64 p1.local_, .sl 0 oe 0 p1.path.length]], .arr 0 3 [[.i .i64 0, .s ([] : List UInt8), .c (.slice none 0 0)]], .arr 0 3 [[.i .i64 v5.2.k, .s v5.2.name, .ro 3 (v5.2.l.map tyC)]]]⟩ : St)) v.1.1 v.1.2) ?_ ?_
    · skip
      refine EV.block ?_
      refine EV.loopB (fun x : { x : Nat × Bool × TyD // x.1 ≤ p1.path.length ∧ mSpot_l5 p0 (p1.path.drop x.1) x.2.1 x.2.2 = z5 } => (fun (j5 : Nat) (a5_0 : Bool) (a5_1 : TyD) => (⟨[.junk, .junk, .ptr 1 0 0 0, .junk, .ptr 3 0 0 0, .junk, .junk, .ptr 4 0 0 0, .b a5_0, .junk, .junk, .junk, .junk, .junk, .junk, .junk, .junk, .junk, .junk, .junk, .junk, .junk, .junk, .junk, .junk, .junk, .junk, .junk, .junk, .junk, .junk, .junk, .junk, .junk, .junk, .sl 0 oe 0 p1.path.length, .i .i64 (p1.path.length : Int), .i .i64 (j5 : Int), .junk, .junk, .junk, .junk, .junk, .junk, .junk, .junk, .junk, .junk, .junk, .junk, .junk, .junk, .junk, .junk, .junk, .junk, .junk, .junk, .junk, .junk, .junk, .junk, .junk, .junk, .junk], [.arr oe 1 (p1.path.map (fun z => [.i .i64 z])), .arr 0 7 [[.ro 4 (p0.s.structs.map structC), .ro 3 (p0.s.enums.map enumC), .ro 4 (p0.s.fns.map fnC), .s p0.b.name, .i .i64 p0.b.params, .ro 4 (p0.b.locals.map localC), .ro 17 (p0.b.blocks.map blockC)]], .arr 0 2 [[.i .i64 p1.local_, .sl 0 oe 0 p1.path.length]], .arr 0 3 [[.i .i64 0, .s ([] : List UInt8), .c (.slice none 0 0)]], .arr 0 3 [[.i .i64 a5_1.k, .s a5_1.name, .ro 3 (a5_1.l.map tyC)]]]⟩ : St)) x.1.1 x.1.2.1 x.1.2.2) (fun x => p1.path.length - x.1.1) ⟨(0, false, y3_5.ty), Nat.zero_le _, e5⟩ ?_ ?_
      · skip
        try dsimp only
        try dsimp only
        refine Sub.cutF 5 (by simp) ?_ ?_ <;> simp [List.range_succ, toIdx_range, passed, b2, c2, hy3_5]
      · skip
        rintro ⟨⟨j5, a5_0, a5_1⟩, hi5, e5⟩
        simp only at hi5 e5 ⊢
        refine EV.seq ?_
        refine EV.regionG tabOK ?_ -- region 5
        simp (maxSteps := 2000000) -implicitDefEqProofs [b2, c2, hy3_5]
        refine EV.seq ?_
        refine EV.roomO 0 (by rfl) (fun mj5 => ?_)
        simp at mj5
        refine EV.condT ?_
        simp -implicitDefEqProofs [b2, c2, hy3_5]
        refine condT_intro (fun k3 => ?_) (fun k3 => ?_)
        · try simp at k3
          have u3 : j5 < p1.path.length := by omega
          obtain ⟨x5, hx5⟩ : ∃ z, p1.path[j5] = z := ⟨_, rfl⟩
          have mx5 : x5 ∈ p1.path := by rw [← hx5]; exact List.getElem_mem _
          rw [List.drop_eq_getElem_cons u3, hx5, mSpot_l5] at e5
          refine EV.skip ?_
          simp only [thenK_normal, blockK_normal, scopeK_normal]
          refine EV.seq ?_
          refine EV.block ?_
          refine EV.seq ?_
          have b4 : 0 ≤ (j5 : Int) ∧ (j5 : Int) < (p1.path.length : Int) := by (first | omega | (simp; omega))
          have c4 : j5 < p1.path.length := by omega
          refine EV.regionG tabOK ?_ -- region 6
          simp (maxSteps := 2000000) -implicitDefEqProofs [b2, c2, hy3_5, k3, u3, hx5, b4, c4]
          refine EV.seq ?_
          refine EV.regionG tabOK ?_ -- region 7
          simp (maxSteps := 2000000) -implicitDefEqProofs +contextual [b2, c2, hy3_5, k3, u3, hx5, b4, c4]
          refine EV.seq ?_
          refine EV.regionG tabOK ?_ -- region 8
          simp (maxSteps := 2000000) -implicitDefEqProofs [b2, c2, hy3_5, k3, u3, hx5, b4, c4]
          refine callG_fun (w_mStep p0 a5_1 x5) ?_ ?_
          · first | (simp; done) | (simp [b2, c2, hy3_5, k3, u3, hx5, b4, c4]; done)
          simp (maxSteps := 2000000) -implicitDefEqProofs [b2, c2, hy3_5, k3, u3, hx5, b4, c4]
          refine EV.seq ?_
          refine EV.seq ?_
          refine EV.regionG tabOK ?_ -- region 9
          simp (maxSteps := 2000000) -implicitDefEqProofs [b2, c2, hy3_5, k3, u3, hx5, b4, c4]
          refine EV.condT ?_
          simp -implicitDefEqProofs [b2, c2, hy3_5, k3, u3, hx5, b4, c4]
          refine condT_intro (fun k5 => ?_) (fun k5 => ?_)
          · try simp at k5
            obtain ⟨f5, e5⟩ := pos_on2 e5 (by first | simpa using k5 | grind)
            try simp at f5
            refine EV.seq ?_
            refine EV.regionG tabOK ?_ -- region 10
            simp (maxSteps := 2000000) -implicitDefEqProofs [b2, c2, hy3_5, k3, u3, hx5, b4, c4]
            refine EV.ret ?_
            simp only [thenK_ret, blockK_ret, scopeK_ret, bodyK_ret]
            replace e := run_back e e5
            subst e
            refine Fin.data ?_ ?_
            · simp [convV, conv1, conv0, cvOb, allP, allR, c0, Pu, take_len_map, List.getD, List.range_succ]
            · simp [List.range_succ]
          · try simp at k5
            obtain ⟨f5, e5⟩ := neg_on2 e5 (by first | simpa using k5 | grind)
            try simp at f5
            refine EV.skip ?_
            simp only [thenK_normal, blockK_normal, scopeK_normal]
            refine EV.regionG tabOK ?_ -- region 11
            simp (maxSteps := 2000000) -implicitDefEqProofs [b2, c2, hy3_5, k3, u3, hx5, b4, c4]
            refine EV.regionG tabOK ?_ -- region 12
            simp (maxSteps := 2000000) -implicitDefEqProofs [b2, c2, hy3_5, k3, u3, hx5, b4, c4]
            have w5 : IntKind.i64.wrap ((j5 : Int) + 1) = (j5 : Int) + 1 := wrap_in _ (by omega) (by omega)
            refine ⟨⟨(j5 + 1, (a5_0 || ((decide (x5 = (-1))) && (decide (a5_1.k = 5)))), ((mStep p0 a5_1 x5).1)), by omega, e5⟩, by dsimp only; omega, ?_⟩
            try dsimp only
            refine Sub.cutF 5 (by simp) ?_ ?_ <;> simp [List.range_succ, toIdx_range, passed, b2, c2, hy3_5, k3, u3, hx5, b4, c4, w5]
        · try simp at k3
          have d3 : p1.path.drop j5 = [] := List.drop_eq_nil_of_le (by omega)
          rw [d3, mSpot_l5] at e5
          refine EV.exit ?_
          simp -implicitDefEqProofs
          refine ⟨⟨((a5_0, a5_1), ()), e5.symm⟩, ?_⟩
          try dsimp only
          refine Sub.cutF 5 (by simp) ?_ ?_ <;> simp [List.range_succ, toIdx_range, passed, b2, c2, hy3_5]
    · skip
      rintro ⟨⟨v5, g5⟩, e5⟩
      simp only [thenK_normal, blockK_normal, scopeK_normal, bodyK_normal]
      replace e := run_on e e5
      try dsimp only at e
      refine EV.seq ?_
      refine EV.regionG tabOK ?_ -- region 13
      simp (maxSteps := 2000000) -implicitDefEqProofs [b2, c2, hy3_5]
      refine EV.ret ?_
      simp only [thenK_ret, blockK_ret, scopeK_ret, bodyK_ret]
      subst e
      refine Fin.plain ?_ ?_
      · simp
      · simp [List.range_succ]

set_option maxHeartbeats 40000000 in
theorem w_mType_o (p0 : SourceD) (p1 : BodyD) (p2 : SpotD)  (oe : Nat) : QC prog 11 [.agg [.ro 4 (p0.structs.map structC), .ro 3 (p0.enums.map enumC), .ro 4 (p0.fns.map fnC)], .agg [.s p1.name, .i .i64 p1.params, .ro 4 (p1.locals.map localC), .ro 17 (p1.blocks.map blockC)], .agg [.i .i64 p2.local_, .sl 0 oe 0 p2.path.length]] [.arr oe 1 (p2.path.map (fun z => [.i .i64 z]))] (.tup [.agg [.i .i64 (((mType p0 p1 p2).1).k), .s (((mType p0 p1 p2).1).name), .ro 3 ((((mType p0 p1 p2).1).l).map tyC)], .b ((mType p0 p1 p2).2.1), .i .i64 ((mType p0 p1 p2).2.2)]) [.arr oe 1 (p2.path.map (fun z => [.i .i64 z]))] := by
  refine QC.of_body tabOK func11 rfl (by kernel_rfl) ?_
  simp only [f11]
  generalize e : mType p0 p1 p2 = R
  unfold mType at e
  refine EV.seq ?_
  refine EV.regionG tabOK ?_ -- region 0
  simp (maxSteps := 2000000) -implicitDefEqProofs
  refine EV.seq ?_
  refine EV.regionG tabOK ?_ -- region 1
  simp (maxSteps := 2000000) -implicitDefEqProofs
  refine callG_own [0] rfl (w_mSpot_o (MirBodyD.mk p0 p1) p2 oe) ?_ ?_ ?_ ?_ ?_ ?_
  · simp
  · simp
  · simp
  · simp
  · simp
  simp (maxSteps := 2000000) -implicitDefEqProofs [keys, callUpd, List.range_succ]
  refine EV.ret ?_
  simp only [thenK_ret, blockK_ret, scopeK_ret, bodyK_ret]
  subst e
  refine Fin.plain ?_ ?_
  · simp
  · simp [List.range_succ]

def lMirSteps (p0 : SourceD) (p1 : BodyD) (p2 : SpotD) (p3 : Int) : Bool :=
  (if ((((zLarge p0 250) = true) ∨ ((zOver p1 250) = true)) ∨ (20 < (p2.path.length : Int))) ∨ (¬ ((mValid p0 p1) = true)) then true else (if ¬ ((mType p0 p1 p2).2.2 = 0) then ((decide ((mType p0 p1 (SpotD.mk p2.local_ (p2.path ++ ([p3] : List Int)))).2.2 = 84)) && (!(mType p0 p1 (SpotD.mk p2.local_ (p2.path ++ ([p3] : List Int)))).2.1)) else (if p3 = (-1) then (if ¬ ((((((decide (((mType p0 p1 p2).1).k = 4)) || (decide (((mType p0 p1 p2).1).k = 5))) || (decide (((mType p0 p1 p2).1).k = 6))) && (decide (((((mType p0 p1 p2).1).l).length : Int) = 1))) == (decide ((mType p0 p1 (SpotD.mk p2.local_ (p2.path ++ ([p3] : List Int)))).2.2 = 0))) = true) then false else (bnd ((((mType p0 p1 p2).1).l).getD 0 default) fun (y17_8 : TyD) => ((!((((decide (((mType p0 p1 p2).1).k = 4)) || (decide (((mType p0 p1 p2).1).k = 5))) || (decide (((mType p0 p1 p2).1).k = 6))) && (decide (((((mType p0 p1 p2).1).l).length : Int) = 1)))) || ((rSameTy ((mType p0 p1 (SpotD.mk p2.local_ (p2.path ++ ([p3] : List Int)))).1) y17_8) && ((mType p0 p1 (SpotD.mk p2.local_ (p2.path ++ ([p3] : List Int)))).2.1 == ((mType p0 p1 p2).2.1 || (decide (((mType p0 p1 p2).1).k = 5)))))))) else ((!(decide ((mType p0 p1 (SpotD.mk p2.local_ (p2.path ++ ([p3] : List Int)))).2.2 = 0))) || (((decide (((mType p0 p1 p2).1).k = 2)) && (decide (0 ≤ p3))) && ((mType p0 p1 (SpotD.mk p2.local_ (p2.path ++ ([p3] : List Int)))).2.1 == (mType p0 p1 p2).2.1))))))
set_option maxHeartbeats 40000000 in
theorem w_lMirSteps (p0 : SourceD) (p1 : BodyD) (p2 : SpotD) (p3 : Int) (hs : SrcOK p0) : QC prog 4 [.agg [.ro 4 (p0.structs.map structC), .ro 3 (p0.enums.map enumC), .ro 4 (p0.fns.map fnC)], .agg [.s p1.name, .i .i64 p1.params, .ro 4 (p1.locals.map localC), .ro 17 (p1.blocks.map blockC)], .agg [.i .i64 p2.local_, .ro 1 (p2.path.map (fun z => [.i .i64 z]))], .i .i64 p3] [] (.b (lMirSteps p0 p1 p2 p3)) [] := by
  refine QC.of_body tabOK func4 rfl (by kernel_rfl) ?_
  simp only [f4]
  generalize e : lMirSteps p0 p1 p2 p3 = R
  unfold lMirSteps at e
  refine EV.seq ?_
  refine EV.regionG tabOK ?_ -- region 0
  simp (maxSteps := 2000000) -implicitDefEqProofs
  refine EV.seq ?_
  refine EV.regionG tabOK ?_ -- region 1
  simp (maxSteps := 2000000) -implicitDefEqProofs
  refine callG_fun (w_works09) ?_ ?_
  · simp
  simp (maxSteps := 2000000) -implicitDefEqProofs
  refine EV.seq ?_
  refine EV.seq ?_
  refine EV.regionG tabOK ?_ -- region 2
  simp (maxSteps := 2000000) -implicitDefEqProofs
  refine EV.condT ?_
  simp -implicitDefEqProofs
  refine EV.skip ?_
  simp only [thenK_normal, blockK_normal, scopeK_normal]
  refine EV.seq ?_
  refine EV.regionG tabOK ?_ -- region 4
  simp (maxSteps := 2000000) -implicitDefEqProofs
  refine callG_fun (w_zLarge p0 250) ?_ ?_
  · simp
  simp (maxSteps := 2000000) -implicitDefEqProofs
  refine EV.seq ?_
  refine EV.seq ?_
  refine EV.nrm (fun _ : Unit => (⟨[.junk, .junk, .junk, .i .i64 p3, .ptr 0 0 0 0, .ptr 1 0 0 0, .ptr 2 0 0 0, .junk, .junk, .b true, .junk, .junk, .junk, .junk, .junk, .junk, .junk, .junk, .junk, .junk, .junk, .junk, .junk, .junk, .junk, .junk, .junk, .junk, .junk, .junk, .junk, .junk, .junk, .junk, .junk, .junk, .junk, .junk, .junk, .junk, .b ((((zLarge p0 250) || (zOver p1 250)) || (decide (20 < (p2.path.length : Int)))) || (!(mValid p0 p1))), .junk, .junk, .junk, .junk, .junk, .junk, .junk, .junk, .junk, .junk, .junk, .junk, .junk, .junk, .junk, .junk, .junk, .junk, .junk, .junk, .junk, .junk, .junk, .junk, .junk, .junk, .junk, .junk, .junk, .junk, .junk, .junk, .junk, .junk, .junk, .junk, .junk, .junk, .junk, .junk, .junk, .junk, .junk, .junk, .junk, .junk, .junk, .junk, .junk, .junk, .junk, .junk, .junk, .junk, .junk, .junk, .junk, .junk, .junk, .junk, .junk, .junk, .junk, .junk, .junk, .junk, .junk, .junk, .junk, .junk, .junk, .junk, .junk, .junk, .junk, .junk, .junk, .junk, .junk, .junk, .junk, .junk, .junk, .junk, .junk, .junk, .junk, .junk, .junk, .junk, .junk, .junk, .junk, .junk, .junk, .junk, .junk, .junk, .junk, .junk, .junk, .junk, .junk, .junk, .junk], [.arr 0 3 [[.ro 4 (p0.structs.map structC), .ro 3 (p0.enums.map enumC), .ro 4 (p0.fns.map fnC)]], .arr 0 4 [[.s p1.name, .i .i64 p1.params, .ro 4 (p1.locals.map localC), .ro 17 (p1.blocks.map blockC)]], .arr 0 2 [[.i .i64 p2.local_, .ro 1 (p2.path.map (fun z => [.i .i64 z]))]]]⟩ : St)) ?_ ?_
  · skip
    cases k2 : (zLarge p0 250)
    · skip
      have kk2 := k2
      try simp at kk2
      cases k3 : (zOver p1 250)
      · skip
        have kk3 := k3
        try simp at kk3
        by_cases k4 : 20 < (p2.path.length : Int)
        · skip
          have kk4 := k4
          try simp at kk4
          refine EV.regionG tabOK ?_ -- region 5
          simp (maxSteps := 2000000) -implicitDefEqProofs +contextual [k2, kk2, k3, kk3, k4, kk4]
          refine callG_fun (w_zOver p1 250) ?_ ?_
          · first | (simp; done) | (simp [k2, kk2, k3, kk3, k4, kk4]; done)
          simp (maxSteps := 2000000) -implicitDefEqProofs +contextual [k2, kk2, k3, kk3, k4, kk4]
          refine ⟨(), ?_⟩
          try dsimp only
          refine Sub.cutF 3 (by simp) ?_ ?_ <;> simp [List.range_succ, toIdx_range, passed, k2, kk2, k3, kk3, k4, kk4] <;> grind
        · skip
          have kk4 := k4
          try simp at kk4
          refine EV.regionG tabOK ?_ -- region 5
          simp (maxSteps := 2000000) -implicitDefEqProofs +contextual [k2, kk2, k3, kk3, k4, kk4]
          refine callG_fun (w_zOver p1 250) ?_ ?_
          · first | (simp; done) | (simp [k2, kk2, k3, kk3, k4, kk4]; done)
          simp (maxSteps := 2000000) -implicitDefEqProofs +contextual [k2, kk2, k3, kk3, k4, kk4]
          refine callG_fun (w_mValid p0 p1 hs) ?_ ?_
          · first | (simp; done) | (simp [k2, kk2, k3, kk3, k4, kk4]; done)
          simp (maxSteps := 2000000) -implicitDefEqProofs +contextual [k2, kk2, k3, kk3, k4, kk4]
          refine ⟨(), ?_⟩
          try dsimp only
          refine Sub.cutF 3 (by simp) ?_ ?_ <;> simp [List.range_succ, toIdx_range, passed, k2, kk2, k3, kk3, k4, kk4] <;> grind
      · skip
        have kk3 := k3
        try simp at kk3
        refine EV.regionG tabOK ?_ -- region 5
        simp (maxSteps := 2000000) -implicitDefEqProofs +contextual [k2, kk2, k3, kk3]
        refine callG_fun (w_zOver p1 250) ?_ ?_
        · first | (simp; done) | (simp [k2, kk2, k3, kk3]; done)
        simp (maxSteps := 2000000) -implicitDefEqProofs +contextual [k2, kk2, k3, kk3]
        refine ⟨(), ?_⟩
        try dsimp only
        refine Sub.cutF 3 (by simp) ?_ ?_ <;> simp [List.range_succ, toIdx_range, passed, k2, kk2, k3, kk3] <;> grind
    · skip
      have kk2 := k2
      try simp at kk2
      refine EV.regionG tabOK ?_ -- region 5
      simp (maxSteps := 2000000) -implicitDefEqProofs +contextual [k2, kk2]
      refine ⟨(), ?_⟩
      try dsimp only
      refine Sub.cutF 3 (by simp) ?_ ?_ <;> simp [List.range_succ, toIdx_range, passed, k2, kk2] <;> grind
  · skip
    rintro _
    simp only [thenK_normal, blockK_normal, scopeK_normal, bodyK_normal]
    refine EV.condT ?_
    simp -implicitDefEqProofs
    refine condT_intro (fun k5 => ?_) (fun k5 => ?_)
    · try simp at k5
      obtain ⟨f5, e⟩ := pos_on2 e (by first | simpa using k5 | grind)
      try simp at f5
      refine EV.seq ?_
      refine EV.regionG tabOK ?_ -- region 6
      simp (maxSteps := 2000000) -implicitDefEqProofs
      refine EV.ret ?_
      simp only [thenK_ret, blockK_ret, scopeK_ret, bodyK_ret]
      subst e
      refine Fin.pure0 ?_
      first | (simp; done) | (simp <;> grind)
    · try simp at k5
      obtain ⟨f5, e⟩ := neg_on2 e (by first | simpa using k5 | grind)
      try simp at f5
      refine EV.skip ?_
      simp only [thenK_normal, blockK_normal, scopeK_normal]
      refine EV.seq ?_
      refine EV.regionG tabOK ?_ -- region 7
      simp (maxSteps := 2000000) -implicitDefEqProofs
      refine callG_fun (w_mType p0 p1 p2) ?_ ?_
      · simp
      simp (maxSteps := 2000000) -implicitDefEqProofs
      refine EV.seq ?_
      refine EV.regionG tabOK ?_ -- region 8
      simp (maxSteps := 2000000) -implicitDefEqProofs
      refine EV.seq ?_
      have r6 : roomFor (p2.path.length) 8 := room_of (by omega) (by decide)
      refine EV.regionG tabOK ?_ -- region 9
      simp (maxSteps := 2000000) -implicitDefEqProofs [r6]
      refine EV.seq ?_
      have r7 : roomFor (p2.path.length + 1) 8 := room_of (by omega) (by decide)
      refine EV.drawG tabOK mixedOK ?_ -- region 10
      simp (maxSteps := 2000000) -implicitDefEqProofs [r6, r7]
      refine callG_own [4] rfl (w_mType_o p0 p1 (SpotD.mk p2.local_ (p2.path ++ ([p3] : List Int))) 1) ?_ ?_ ?_ ?_ ?_ ?_
      · simp
      · simp
      · simp
      · simp
      · simp
      simp (maxSteps := 2000000) -implicitDefEqProofs [r6, r7, keys, callUpd, List.range_succ]
      refine And.intro ?_ ?_
      · first | decide +kernel | (simp -implicitDefEqProofs; decide +kernel) | (split <;> decide +kernel)
      try simp -implicitDefEqProofs
      refine EV.seq ?_
      refine EV.seq ?_
      refine EV.regionG tabOK ?_ -- region 11
      simp (maxSteps := 2000000) -implicitDefEqProofs [r6, r7]
      refine EV.condT ?_
      simp -implicitDefEqProofs [r6, r7]
      refine condT_intro (fun k8 => ?_) (fun k8 => ?_)
      · try simp at k8
        obtain ⟨f8, e⟩ := pos_on2 e (by first | simpa using k8 | grind)
        try simp at f8
        refine EV.seq ?_
        refine EV.regionG tabOK ?_ -- region 12
        simp (maxSteps := 2000000) -implicitDefEqProofs +contextual [r6, r7]
        refine EV.ret ?_
        simp only [thenK_ret, blockK_ret, scopeK_ret, bodyK_ret]
        subst e
        refine Fin.pure0 ?_
        first | (simp; done) | (simp <;> grind)
      · try simp at k8
        obtain ⟨f8, e⟩ := neg_on2 e (by first | simpa using k8 | grind)
        try simp at f8
        refine EV.skip ?_
        simp only [thenK_normal, blockK_normal, scopeK_normal]
        refine EV.seq ?_
        refine EV.seq ?_
        refine EV.regionG tabOK ?_ -- region 13
        simp (maxSteps := 2000000) -implicitDefEqProofs [r6, r7]
        refine EV.condT ?_
        simp -implicitDefEqProofs [r6, r7]
        refine condT_intro (fun k9 => ?_) (fun k9 => ?_)
        · try simp at k9
          obtain ⟨f9, e⟩ := pos_on2 e (by first | simpa using k9 | grind)
          try simp at f9
          refine EV.seq ?_
          refine EV.regionG tabOK ?_ -- region 14
          simp (maxSteps := 2000000) -implicitDefEqProofs +contextual [r6, r7]
          refine EV.seq ?_
          refine EV.seq ?_
          refine EV.regionG tabOK ?_ -- region 15
          simp (maxSteps := 2000000) -implicitDefEqProofs [r6, r7]
          refine EV.condT ?_
          simp -implicitDefEqProofs [r6, r7]
          refine condT_intro (fun k10 => ?_) (fun k10 => ?_)
          · try simp at k10
            obtain ⟨f10, e⟩ := pos_on2 e (by first | simpa using k10 | grind)
            try simp at f10
            refine EV.seq ?_
            refine EV.regionG tabOK ?_ -- region 16
            simp (maxSteps := 2000000) -implicitDefEqProofs [r6, r7]
            refine EV.ret ?_
            simp only [thenK_ret, blockK_ret, scopeK_ret, bodyK_ret]
            subst e
            refine Fin.pure0 ?_
            first | (simp; done) | (simp <;> grind)
          · try simp at k10
            obtain ⟨f10, e⟩ := neg_on2 e (by first | simpa using k10 | grind)
            try simp at f10
            refine EV.skip ?_
            simp only [thenK_normal, blockK_normal, scopeK_normal]
            refine EV.seq ?_
            obtain ⟨y17_8, gy17_8⟩ : ∃ z, ((((mType p0 p1 p2).1).l).getD 0 default) = z := ⟨_, rfl⟩
            replace e := bnd_on e gy17_8
            try dsimp only at e
            refine EV.nrm (fun _ : Unit => (⟨[.junk, .junk, .junk, .junk, .junk, .junk, .junk, .junk, .b ((!((((decide (((mType p0 p1 p2).1).k = 4)) || (decide (((mType p0 p1 p2).1).k = 5))) || (decide (((mType p0 p1 p2).1).k = 6))) && (decide (((((mType p0 p1 p2).1).l).length : Int) = 1)))) || ((rSameTy ((mType p0 p1 (SpotD.mk p2.local_ (p2.path ++ ([p3] : List Int)))).1) y17_8) && ((mType p0 p1 (SpotD.mk p2.local_ (p2.path ++ ([p3] : List Int)))).2.1 == ((mType p0 p1 p2).2.1 || (decide (((mType p0 p1 p2).1).k = 5)))))), .junk, .junk, .junk, .junk, .junk, .junk, .junk, .junk, .junk, .junk, .junk, .junk, .junk, .junk, .junk, .junk, .junk, .junk, .junk, .junk, .junk, .junk, .junk, .junk, .junk, .junk, .junk, .junk, .junk, .junk, .junk, .junk, .junk, .junk, .junk, .junk, .junk, .junk, .junk, .junk, .junk, .junk, .junk, .junk, .junk, .junk, .junk, .junk, .junk, .junk, .junk, .junk, .junk, .junk, .junk, .junk, .junk, .junk, .junk, .junk, .junk, .junk, .junk, .junk, .junk, .junk, .junk, .junk, .junk, .junk, .junk, .junk, .junk, .junk, .junk, .junk, .junk, .junk, .junk, .junk, .junk, .junk, .junk, .junk, .junk, .junk, .junk, .junk, .junk, .junk, .junk, .junk, .junk, .junk, .junk, .junk, .junk, .junk, .junk, .junk, .junk, .junk, .junk, .junk, .junk, .junk, .junk, .junk, .junk, .junk, .junk, .junk, .junk, .junk, .junk, .junk, .junk, .junk, .junk, .junk, .junk, .junk, .junk, .junk, .junk, .junk, .junk, .junk, .junk, .junk, .junk, .junk, .junk, .junk, .junk, .junk, .junk], []⟩ : St)) ?_ ?_
            · skip
              by_cases k12 : ((mType p0 p1 p2).1).k = 4
              · skip
                have kk12 := k12
                try simp at kk12
                by_cases k13 : ((((mType p0 p1 p2).1).l).length : Int) = 1
                · skip
                  have kk13 := k13
                  try simp at kk13
                  cases k14 : (rSameTy ((mType p0 p1 (SpotD.mk p2.local_ (p2.path ++ ([p3] : List Int)))).1) y17_8)
                  · skip
                    have kk14 := k14
                    try simp at kk14
                    have b15 : 0 ≤ 0 ∧ 0 < ((((mType p0 p1 p2).1).l).length : Int) := by omega
                    have c15 : 0 < (((mType p0 p1 p2).1).l).length := by omega
                    have hy17_8 : (((mType p0 p1 p2).1).l)[0] = y17_8 := by rw [← gy17_8, List.getD_eq_getElem?_getD, List.getElem?_eq_getElem c15]; rfl
                    have my17_8 : y17_8 ∈ (((mType p0 p1 p2).1).l) := by rw [← hy17_8]; exact List.getElem_mem _
                    refine EV.drawG tabOK mixedOK ?_ -- region 17
                    simp (maxSteps := 2000000) -implicitDefEqProofs +contextual [r6, r7, k12, kk12, k13, kk13, k14, kk14, b15, c15, hy17_8]
                    refine callG_fun (w_rSameTy ((mType p0 p1 (SpotD.mk p2.local_ (p2.path ++ ([p3] : List Int)))).1) y17_8) ?_ ?_
                    · first | (simp; done) | (simp [r6, r7, k12, kk12, k13, kk13, k14, kk14, b15, c15, hy17_8]; done)
                    simp (maxSteps := 2000000) -implicitDefEqProofs +contextual [r6, r7, k12, kk12, k13, kk13, k14, kk14, b15, c15, hy17_8]
                    refine And.intro ?_ ?_
                    · first | decide +kernel | (simp -implicitDefEqProofs; decide +kernel) | (split <;> decide +kernel)
                    try simp -implicitDefEqProofs
                    refine ⟨(), ?_⟩
                    try dsimp only
                    refine Sub.cutF 0 (by simp) ?_ ?_ <;> simp [List.range_succ, toIdx_range, passed, r6, r7, k12, kk12, k13, kk13, k14, kk14, b15, c15, hy17_8] <;> grind
                  · skip
                    have kk14 := k14
                    try simp at kk14
                    cases k16 : (mType p0 p1 p2).2.1
                    · skip
                      have kk16 := k16
                      try simp at kk16
                      have b17 : 0 ≤ 0 ∧ 0 < ((((mType p0 p1 p2).1).l).length : Int) := by omega
                      have c17 : 0 < (((mType p0 p1 p2).1).l).length := by omega
                      have hy17_8 : (((mType p0 p1 p2).1).l)[0] = y17_8 := by rw [← gy17_8, List.getD_eq_getElem?_getD, List.getElem?_eq_getElem c17]; rfl
                      have my17_8 : y17_8 ∈ (((mType p0 p1 p2).1).l) := by rw [← hy17_8]; exact List.getElem_mem _
                      refine EV.drawG tabOK mixedOK ?_ -- region 17
                      simp (maxSteps := 2000000) -implicitDefEqProofs +contextual [r6, r7, k12, kk12, k13, kk13, k14, kk14, k16, kk16, b17, c17, hy17_8]
                      refine callG_fun (w_rSameTy ((mType p0 p1 (SpotD.mk p2.local_ (p2.path ++ ([p3] : List Int)))).1) y17_8) ?_ ?_
                      · first | (simp; done) | (simp [r6, r7, k12, kk12, k13, kk13, k14, kk14, k16, kk16, b17, c17, hy17_8]; done)
                      simp (maxSteps := 2000000) -implicitDefEqProofs +contextual [r6, r7, k12, kk12, k13, kk13, k14, kk14, k16, kk16, b17, c17, hy17_8]
                      refine And.intro ?_ ?_
                      · first | decide +kernel | (simp -implicitDefEqProofs; decide +kernel) | (split <;> decide +kernel)
                      try simp -implicitDefEqProofs
                      refine ⟨(), ?_⟩
                      try dsimp only
                      refine Sub.cutF 0 (by simp) ?_ ?_ <;> simp [List.range_succ, toIdx_range, passed, r6, r7, k12, kk12, k13, kk13, k14, kk14, k16, kk16, b17, c17, hy17_8] <;> grind
                    · skip
                      have kk16 := k16
                      try simp at kk16
                      have b18 : 0 ≤ 0 ∧ 0 < ((((mType p0 p1 p2).1).l).length : Int) := by omega
                      have c18 : 0 < (((mType p0 p1 p2).1).l).length := by omega
                      have hy17_8 : (((mType p0 p1 p2).1).l)[0] = y17_8 := by rw [← gy17_8, List.getD_eq_getElem?_getD, List.getElem?_eq_getElem c18]; rfl
                      have my17_8 : y17_8 ∈ (((mType p0 p1 p2).1).l) := by rw [← hy17_8]; exact List.getElem_mem _
                      refine EV.drawG tabOK mixedOK ?_ -- region 17
                      simp (maxSteps := 2000000) -implicitDefEqProofs +contextual [r6, r7, k12, kk12, k13, kk13, k14, kk14, k16, kk16, b18, c18, hy17_8]
                      refine callG_fun (w_rSameTy ((mType p0 p1 (SpotD.mk p2.local_ (p2.path ++ ([p3] : List Int)))).1) y17_8) ?_ ?_
                      · first | (simp; done) | (simp [r6, r7, k12, kk12, k13, kk13, k14, kk14, k16, kk16, b18, c18, hy17_8]; done)
                      simp (maxSteps := 2000000) -implicitDefEqProofs +contextual [r6, r7, k12, kk12, k13, kk13, k14, kk14, k16, kk16, b18, c18, hy17_8]
                      refine And.intro ?_ ?_
                      · first | decide +kernel | (simp -implicitDefEqProofs; decide +kernel) | (split <;> decide +kernel)
                      try simp -implicitDefEqProofs
                      refine ⟨(), ?_⟩
                      try dsimp only
                      refine Sub.cutF 0 (by simp) ?_ ?_ <;> simp [List.range_succ, toIdx_range, passed, r6, r7, k12, kk12, k13, kk13, k14, kk14, k16, kk16, b18, c18, hy17_8] <;> grind
                · skip
                  have kk13 := k13
                  try simp at kk13
                  refine EV.drawG tabOK mixedOK ?_ -- region 17
                  simp (maxSteps := 2000000) -implicitDefEqProofs +contextual [r6, r7, k12, kk12, k13, kk13]
                  refine And.intro ?_ ?_
                  · first | decide +kernel | (simp -implicitDefEqProofs; decide +kernel) | (split <;> decide +kernel)
                  try simp -implicitDefEqProofs
                  refine ⟨(), ?_⟩
                  try dsimp only
                  refine Sub.cutF 0 (by simp) ?_ ?_ <;> simp [List.range_succ, toIdx_range, passed, r6, r7, k12, kk12, k13, kk13] <;> grind
              · skip
                have kk12 := k12
                try simp at kk12
                by_cases k19 : ((mType p0 p1 p2).1).k = 5
                · skip
                  have kk19 := k19
                  try simp at kk19
                  by_cases k20 : ((((mType p0 p1 p2).1).l).length : Int) = 1
                  · skip
                    have kk20 := k20
                    try simp at kk20
                    cases k21 : (rSameTy ((mType p0 p1 (SpotD.mk p2.local_ (p2.path ++ ([p3] : List Int)))).1) y17_8)
                    · skip
                      have kk21 := k21
                      try simp at kk21
                      have b22 : 0 ≤ 0 ∧ 0 < ((((mType p0 p1 p2).1).l).length : Int) := by omega
                      have c22 : 0 < (((mType p0 p1 p2).1).l).length := by omega
                      have hy17_8 : (((mType p0 p1 p2).1).l)[0] = y17_8 := by rw [← gy17_8, List.getD_eq_getElem?_getD, List.getElem?_eq_getElem c22]; rfl
                      have my17_8 : y17_8 ∈ (((mType p0 p1 p2).1).l) := by rw [← hy17_8]; exact List.getElem_mem _
                      refine EV.drawG tabOK mixedOK ?_ -- region 17
                      simp (maxSteps := 2000000) -implicitDefEqProofs +contextual [r6, r7, k12, kk12, k19, kk19, k20, kk20, k21, kk21, b22, c22, hy17_8]
                      refine callG_fun (w_rSameTy ((mType p0 p1 (SpotD.mk p2.local_ (p2.path ++ ([p3] : List Int)))).1) y17_8) ?_ ?_
                      · first | (simp; done) | (simp [r6, r7, k12, kk12, k19, kk19, k20, kk20, k21, kk21, b22, c22, hy17_8]; done)
                      simp (maxSteps := 2000000) -implicitDefEqProofs +contextual [r6, r7, k12, kk12, k19, kk19, k20, kk20, k21, kk21, b22, c22, hy17_8]
                      refine And.intro ?_ ?_
                      · first | decide +kernel | (simp -implicitDefEqProofs; decide +kernel) | (split <;> decide +kernel)
                      try simp -implicitDefEqProofs
                      refine ⟨(), ?_⟩
                      try dsimp only
                      refine Sub.cutF 0 (by simp) ?_ ?_ <;> simp [List.range_succ, toIdx_range, passed, r6, r7, k12, kk12, k19, kk19, k20, kk20, k21, kk21, b22, c22, hy17_8] <;> grind
                    · skip
                      have kk21 := k21
                      try simp at kk21
                      cases k23 : (mType p0 p1 p2).2.1
                      · skip
                        have kk23 := k23
                        try simp at kk23
                        have b24 : 0 ≤ 0 ∧ 0 < ((((mType p0 p1 p2).1).l).length : Int) := by omega
                        have c24 : 0 < (((mType p0 p1 p2).1).l).length := by omega
                        have hy17_8 : (((mType p0 p1 p2).1).l)[0] = y17_8 := by rw [← gy17_8, List.getD_eq_getElem?_getD, List.getElem?_eq_getElem c24]; rfl
                        have my17_8 : y17_8 ∈ (((mType p0 p1 p2).1).l) := by rw [← hy17_8]; exact List.getElem_mem _
                        refine EV.drawG tabOK mixedOK ?_ -- region 17
                        simp (maxSteps := 2000000) -implicitDefEqProofs +contextual [r6, r7, k12, kk12, k19, kk19, k20, kk20, k21, kk21, k23, kk23, b24, c24, hy17_8]
                        refine callG_fun (w_rSameTy ((mType p0 p1 (SpotD.mk p2.local_ (p2.path ++ ([p3] : List Int)))).1) y17_8) ?_ ?_
                        · first | (simp; done) | (simp [r6, r7, k12, kk12, k19, kk19, k20, kk20, k21, kk21, k23, kk23, b24, c24, hy17_8]; done)
                        simp (maxSteps := 2000000) -implicitDefEqProofs +contextual [r6, r7, k12, kk12, k19, kk19, k20, kk20, k21, kk21, k23, kk23, b24, c24, hy17_8]
                        refine And.intro ?_ ?_
                        · first | decide +kernel | (simp -implicitDefEqProofs; decide +kernel) | (split <;> decide +kernel)
                        try simp -implicitDefEqProofs
                        refine ⟨(), ?_⟩
                        try dsimp only
                        refine Sub.cutF 0 (by simp) ?_ ?_ <;> simp [List.range_succ, toIdx_range, passed, r6, r7, k12, kk12, k19, kk19, k20, kk20, k21, kk21, k23, kk23, b24, c24, hy17_8] <;> grind
                      · skip
                        have kk23 := k23
                        try simp at kk23
                        have b25 : 0 ≤ 0 ∧ 0 < ((((mType p0 p1 p2).1).l).length : Int) := by omega
                        have c25 : 0 < (((mType p0 p1 p2).1).l).length := by omega
                        have hy17_8 : (((mType p0 p1 p2).1).l)[0] = y17_8 := by rw [← gy17_8, List.getD_eq_getElem?_getD, List.getElem?_eq_getElem c25]; rfl
                        have my17_8 : y17_8 ∈ (((mType p0 p1 p2).1).l) := by rw [← hy17_8]; exact List.getElem_mem _
                        refine EV.drawG tabOK mixedOK ?_ -- region 17
                        simp (maxSteps := 2000000) -implicitDefEqProofs +contextual [r6, r7, k12, kk12, k19, kk19, k20, kk20, k21, kk21, k23, kk23, b25, c25, hy17_8]
                        refine callG_fun (w_rSameTy ((mType p0 p1 (SpotD.mk p2.local_ (p2.path ++ ([p3] : List Int)))).1) y17_8) ?_ ?_
                        · first | (simp; done) | (simp [r6, r7, k12, kk12, k19, kk19, k20, kk20, k21, kk21, k23, kk23, b25, c25, hy17_8]; done)
                        simp (maxSteps := 2000000) -implicitDefEqProofs +contextual [r6, r7, k12, kk12, k19, kk19, k20, kk20, k21, kk21, k23, kk23, b25, c25, hy17_8]
                        refine And.intro ?_ ?_
                        · first | decide +kernel | (simp -implicitDefEqProofs; decide +kernel) | (split <;> decide +kernel)
                        try simp -implicitDefEqProofs
                        refine ⟨(), ?_⟩
                        try dsimp only
                        refine Sub.cutF 0 (by simp) ?_ ?_ <;> simp [List.range_succ, toIdx_range, passed, r6, r7, k12, kk12, k19, kk19, k20, kk20, k21, kk21, k23, kk23, b25, c25, hy17_8] <;> grind
                  · skip
                    have kk20 := k20
                    try simp at kk20
                    refine EV.drawG tabOK mixedOK ?_ -- region 17
                    simp (maxSteps := 2000000) -implicitDefEqProofs +contextual [r6, r7, k12, kk12, k19, kk19, k20, kk20]
                    refine And.intro ?_ ?_
                    · first | decide +kernel | (simp -implicitDefEqProofs; decide +kernel) | (split <;> decide +kernel)
                    try simp -implicitDefEqProofs
                    refine ⟨(), ?_⟩
                    try dsimp only
                    refine Sub.cutF 0 (by simp) ?_ ?_ <;> simp [List.range_succ, toIdx_range, passed, r6, r7, k12, kk12, k19, kk19, k20, kk20] <;> grind
                · skip
                  have kk19 := k19
                  try simp at kk19
                  by_cases k26 : ((mType p0 p1 p2).1).k = 6
                  · skip
                    have kk26 := k26
                    try simp at kk26
                    by_cases k27 : ((((mType p0 p1 p2).1).l).length : Int) = 1
                    · skip
                      have kk27 := k27
                      try simp at kk27
                      cases k28 : (rSameTy ((mType p0 p1 (SpotD.mk p2.local_ (p2.path ++ ([p3] : List Int)))).1) y17_8)
                      · skip
                        have kk28 := k28
                        try simp at kk28
                        have b29 : 0 ≤ 0 ∧ 0 < ((((mType p0 p1 p2).1).l).length : Int) := by omega
                        have c29 : 0 < (((mType p0 p1 p2).1).l).length := by omega
                        have hy17_8 : (((mType p0 p1 p2).1).l)[0] = y17_8 := by rw [← gy17_8, List.getD_eq_getElem?_getD, List.getElem?_eq_getElem c29]; rfl
                        have my17_8 : y17_8 ∈ (((mType p0 p1 p2).1).l) := by rw [← hy17_8]; exact List.getElem_mem _
                        refine EV.drawG tabOK mixedOK ?_ -- region 17
                        simp (maxSteps := 2000000) -implicitDefEqProofs +contextual [r6, r7, k12, kk12, k19, kk19, k26, kk26, k27, kk27, k28, kk28, b29, c29, hy17_8]
                        refine callG_fun (w_rSameTy ((mType p0 p1 (SpotD.mk p2.local_ (p2.path ++ ([p3] : List Int)))).1) y17_8) ?_ ?_
                        · first | (simp; done) | (simp [r6, r7, k12, kk12, k19, kk19, k26, kk26, k27, kk27, k28, kk28, b29, c29, hy17_8]; done)
                        simp (maxSteps := 2000000) -implicitDefEqProofs +contextual [r6, r7, k12, kk12, k19, kk19, k26, kk26, k27, kk27, k28, kk28, b29, c29, hy17_8]
                        refine And.intro ?_ ?_
                        · first | decide +kernel | (simp -implicitDefEqProofs; decide +kernel) | (split <;> decide +kernel)
                        try simp -implicitDefEqProofs
                        refine ⟨(), ?_⟩
                        try dsimp only
                        refine Sub.cutF 0 (by simp) ?_ ?_ <;> simp [List.range_succ, toIdx_range, passed, r6, r7, k12, kk12, k19, kk19, k26, kk26, k27, kk27, k28, kk28, b29, c29, hy17_8] <;> grind
                      · skip
                        have kk28 := k28
                        try simp at kk28
                        cases k30 : (mType p0 p1 p2).2.1
                        · skip
                          have kk30 := k30
                          try simp at kk30
                          have b31 : 0 ≤ 0 ∧ 0 < ((((mType p0 p1 p2).1).l).length : Int) := by omega
                          have c31 : 0 < (((mType p0 p1 p2).1).l).length := by omega
                          have hy17_8 : (((mType p0 p1 p2).1).l)[0] = y17_8 := by rw [← gy17_8, List.getD_eq_getElem?_getD, List.getElem?_eq_getElem c31]; rfl
                          have my17_8 : y17_8 ∈ (((mType p0 p1 p2).1).l) := by rw [← hy17_8]; exact List.getElem_mem _
                          refine EV.drawG tabOK mixedOK ?_ -- region 17
                          simp (maxSteps := 2000000) -implicitDefEqProofs +contextual [r6, r7, k12, kk12, k19, kk19, k26, kk26, k27, kk27, k28, kk28, k30, kk30, b31, c31, hy17_8]
                          refine callG_fun (w_rSameTy ((mType p0 p1 (SpotD.mk p2.local_ (p2.path ++ ([p3] : List Int)))).1) y17_8) ?_ ?_
                          · first | (simp; done) | (simp [r6, r7, k12, kk12, k19, kk19, k26, kk26, k27, kk27, k28, kk28, k30, kk30, b31, c31, hy17_8]; done)
                          simp (maxSteps := 2000000) -implicitDefEqProofs +contextual [r6, r7, k12, kk12, k19, kk19, k26, kk26, k27, kk27, k28, kk28, k30, kk30, b31, c31, hy17_8]
                          refine And.intro ?_ ?_
                          · first | decide +kernel | (simp -implicitDefEqProofs; decide +kernel) | (split <;> decide +kernel)
                          try simp -implicitDefEqProofs
                          refine ⟨(), ?_⟩
                          try dsimp only
                          refine Sub.cutF 0 (by simp) ?_ ?_ <;> simp [List.range_succ, toIdx_range, passed, r6, r7, k12, kk12, k19, kk19, k26, kk26, k27, kk27, k28, kk28, k30, kk30, b31, c31, hy17_8] <;> grind
                        · skip
                          have kk30 := k30
                          try simp at kk30
                          have b32 : 0 ≤ 0 ∧ 0 < ((((mType p0 p1 p2).1).l).length : Int) := by omega
                          have c32 : 0 < (((mType p0 p1 p2).1).l).length := by omega
                          have hy17_8 : (((mType p0 p1 p2).1).l)[0] = y17_8 := by rw [← gy17_8, List.getD_eq_getElem?_getD, List.getElem?_eq_getElem c32]; rfl
                          have my17_8 : y17_8 ∈ (((mType p0 p1 p2).1).l) := by rw [← hy17_8]; exact List.getElem_mem _
                          refine EV.drawG tabOK mixedOK ?_ -- region 17
                          simp (maxSteps := 2000000) -implicitDefEqProofs +contextual [r6, r7, k12, kk12, k19, kk19, k26, kk26, k27, kk27, k28, kk28, k30, kk30, b32, c32, hy17_8]
                          refine callG_fun (w_rSameTy ((mType p0 p1 (SpotD.mk p2.local_ (p2.path ++ ([p3] : List Int)))).1) y17_8) ?_ ?_
                          · first | (simp; done) | (simp [r6, r7, k12, kk12, k19, kk19, k26, kk26, k27, kk27, k28, kk28, k30, kk30, b32, c32, hy17_8]; done)
                          simp (maxSteps := 2000000) -implicitDefEqProofs +contextual [r6, r7, k12, kk12, k19, kk19, k26, kk26, k27, kk27, k28, kk28, k30, kk30, b32, c32, hy17_8]
                          refine And.intro ?_ ?_
                          · first | decide +kernel | (simp -implicitDefEqProofs; decide +kernel) | (split <;> decide +kernel)
                          try simp -implicitDefEqProofs
                          refine ⟨(), ?_⟩
                          try dsimp only
                          refine Sub.cutF 0 (by simp) ?_ ?_ <;> simp [List.range_succ, toIdx_range, passed, r6, r7, k12, kk12, k19, kk19, k26, kk26, k27, kk27, k28, kk28, k30, kk30, b32, c32, hy17_8] <;> grind
                    · skip
                      have kk27 := k27
                      try simp at kk27
                      refine EV.drawG tabOK mixedOK ?_ -- region 17
                      simp (maxSteps := 2000000) -implicitDefEqProofs +contextual [r6, r7, k12, kk12, k19, kk19, k26, kk26, k27, kk27]
                      refine And.intro ?_ ?_
                      · first | decide +kernel | (simp -implicitDefEqProofs; decide +kernel) | (split <;> decide +kernel)
                      try simp -implicitDefEqProofs
                      refine ⟨(), ?_⟩
                      try dsimp only
                      refine Sub.cutF 0 (by simp) ?_ ?_ <;> simp [List.range_succ, toIdx_range, passed, r6, r7, k12, kk12, k19, kk19, k26, kk26, k27, kk27] <;> grind
                  · skip
                    have kk26 := k26
                    try simp at kk26
                    refine EV.drawG tabOK mixedOK ?_ -- region 17
                    simp (maxSteps := 2000000) -implicitDefEqProofs +contextual [r6, r7, k12, kk12, k19, kk19, k26, kk26]
                    refine And.intro ?_ ?_
                    · first | decide +kernel | (simp -implicitDefEqProofs; decide +kernel) | (split <;> decide +kernel)
                    try simp -implicitDefEqProofs
                    refine ⟨(), ?_⟩
                    try dsimp only
                    refine Sub.cutF 0 (by simp) ?_ ?_ <;> simp [List.range_succ, toIdx_range, passed, r6, r7, k12, kk12, k19, kk19, k26, kk26] <;> grind
            · skip
              rintro _
              simp only [thenK_normal, blockK_normal, scopeK_normal, bodyK_normal]
              refine EV.ret ?_
              simp only [thenK_ret, blockK_ret, scopeK_ret, bodyK_ret]
              subst e
              refine Fin.pure0 ?_
              first | (simp; done) | (simp <;> grind)
        · try simp at k9
          obtain ⟨f9, e⟩ := neg_on2 e (by first | simpa using k9 | grind)
          try simp at f9
          refine EV.skip ?_
          simp only [thenK_normal, blockK_normal, scopeK_normal]
          refine EV.seq ?_
          refine EV.regionG tabOK ?_ -- region 18
          simp (maxSteps := 2000000) -implicitDefEqProofs +contextual [r6, r7]
          refine EV.ret ?_
          simp only [thenK_ret, blockK_ret, scopeK_ret, bodyK_ret]
          subst e
          refine Fin.pure0 ?_
          first | (simp; done) | (simp <;> grind)
end
end Go.Proofs.Tryd
end
section
namespace Go.Proofs.Tryd
open Go Go.AM

theorem run_ite {ρ ν : Type} {c : Prop} [Decidable c] {a b : Ctl ρ ν} {f : ν → ρ} : (if c then a else b).run f = if c then a.run f else b.run f := by split <;> rfl
theorem bind_ite {ρ ν μ : Type} {c : Prop} [Decidable c] {a b : Ctl ρ ν} {f : ν → Ctl ρ μ} : (if c then a else b).bind f = if c then a.bind f else b.bind f := by split <;> rfl
theorem run_bind {ρ ν μ : Type} {a : Ctl ρ ν} {g : ν → Ctl ρ μ} {f : μ → ρ} : (a.bind g).run f = a.run fun v => (g v).run f := by cases a <;> rfl

/-- One step further in. -/
noncomputable def spotStep (p0 : MirBodyD) (k : Int) (sh : Bool) (t : TyD) : Ctl (TyD × Bool × Int) (Bool × TyD) :=
  if ¬ ((mStep p0 t k).2 = true) then .ret (⟨0, [], []⟩, false, 84) else .go (sh || (decide (k = -1) && decide (t.k = 5)), (mStep p0 t k).1)
theorem mSpot_snoc (p0 : MirBodyD) (k : Int) : ∀ (l : List Int) (sh : Bool) (t : TyD), mSpot_l5 p0 (l ++ [k]) sh t = (mSpot_l5 p0 l sh t).bind fun v => spotStep p0 k v.1 v.2
  | [], sh, t => by
    simp only [List.nil_append, mSpot_l5, Ctl.bind_go, spotStep]
  | x :: l, sh, t => by
    simp only [List.cons_append, mSpot_l5]
    split
    · rfl
    · exact mSpot_snoc p0 k l _ _
theorem mSpot_ret (p0 : MirBodyD) : ∀ (l : List Int) (sh : Bool) (t : TyD) (r : TyD × Bool × Int), mSpot_l5 p0 l sh t = .ret r → r = (⟨0, [], []⟩, false, 84)
  | [], _, _, _, h => by simp [mSpot_l5] at h
  | x :: l, sh, t, r, h => by
    simp only [mSpot_l5] at h
    split at h
    · exact (Ctl.ret.inj h).symm
    · exact mSpot_ret p0 l _ _ r h
/-- A spot's type: what is wrong is told by one number. -/
theorem mSpot_err (p0 : MirBodyD) (x : SpotD) (h : (mSpot p0 x).2.2 ≠ 0) : mSpot p0 x = (⟨0, [], []⟩, false, 84) := by
  unfold mSpot at h ⊢
  split
  · rfl
  · rename_i hc
    rw [if_neg hc] at h
    simp only [bnd] at h ⊢
    cases hq : mSpot_l5 p0 x.path false (p0.b.locals.getD x.local_.toNat default).ty with
    | ret r => rw [Ctl.run_ret]; exact mSpot_ret p0 _ _ _ _ hq
    | go v => rw [hq, Ctl.run_go] at h; exact absurd rfl h
/-- The spot one step further in. -/
theorem mSpot_more (p0 : MirBodyD) (x : SpotD) (k : Int) : mSpot p0 ⟨x.local_, x.path ++ [k]⟩ = if (mSpot p0 x).2.2 ≠ 0 then (⟨0, [], []⟩, false, 84) else
    (spotStep p0 k (mSpot p0 x).2.1 (mSpot p0 x).1).run fun v => (v.2, v.1, 0) := by
  unfold mSpot
  by_cases hc : (x.local_ < 0) ∨ ((p0.b.locals.length : Int) ≤ x.local_)
  · simp only [if_pos hc]
    simp
  · simp only [if_neg hc, bnd, mSpot_snoc]
    cases hq : mSpot_l5 p0 x.path false (p0.b.locals.getD x.local_.toNat default).ty with
    | ret r =>
      obtain rfl := mSpot_ret p0 _ _ _ _ hq
      simp [Ctl.bind, Ctl.run]
    | go v => simp [Ctl.bind_go, Ctl.run_go]
theorem mStep_in (p0 : MirBodyD) (t : TyD) : mStep p0 t (-1) = if (t.k = 4 ∨ t.k = 5 ∨ t.k = 6) ∧ (t.l.length : Int) = 1 then (t.l.getD 0 default, true) else (⟨0, [], []⟩, false) := by
  unfold mStep
  simp only [if_true, bnd, run_ite, Ctl.run_ret, Ctl.run_go]
  by_cases h4 : t.k = 4
  · by_cases hl : (t.l.length : Int) = 1 <;> simp [h4, hl]
  by_cases h5 : t.k = 5
  · by_cases hl : (t.l.length : Int) = 1 <;> simp [h5, hl]
  by_cases h6 : t.k = 6
  · by_cases hl : (t.l.length : Int) = 1 <;> simp [h6, hl]
  simp [h4, h5, h6]
theorem mStep_field (p0 : MirBodyD) (t : TyD) (k : Int) (hk : k ≠ -1) (h : (mStep p0 t k).2 = true) : t.k = 2 ∧ 0 ≤ k := by
  unfold mStep at h
  simp only [if_neg hk, bnd] at h
  split at h
  · cases h
  · rename_i hc
    constructor
    · by_cases q : t.k = 2
      · exact q
      · exact absurd (.inl (.inl (.inl q))) hc
    · by_cases q : k < 0
      · exact absurd (.inl (.inr q)) hc
      · omega
end Go.Proofs.Tryd
end
section
namespace Go.Proofs.Tryd
open Go Go.AM

theorem sameL (r : TyD → TyD → Bool) (b : TyD) : ∀ (l : List TyD) (j : Nat), ((rSameTy_b_l4 r b l j).run fun _ => true) = true ↔ ∀ (i : Nat) (x : TyD), l[i]? = some x → r x (b.l.getD (j + i) default) = true
  | [], j => by simp [rSameTy_b_l4, Ctl.run]
  | x :: l, j => by
    by_cases h : r x (b.l.getD j default) = true
    · have e : rSameTy_b_l4 r b (x :: l) j = rSameTy_b_l4 r b l (j + 1) := by
        simp only [rSameTy_b_l4, bnd]
        rw [if_neg (by simpa using h)]
      rw [e, sameL r b l (j + 1)]
      constructor
      · intro H i y hy
        cases i with
        | zero => simp at hy; subst hy; simpa using h
        | succ i =>
          have := H i y (by simpa using hy)
          rwa [show j + 1 + i = j + (i + 1) by omega] at this
      · intro H i y hy
        have := H (i + 1) y (by simpa using hy)
        rwa [show j + (i + 1) = j + 1 + i by omega] at this
    · have e : rSameTy_b_l4 r b (x :: l) j = .ret false := by
        simp only [rSameTy_b_l4, bnd]
        rw [if_pos h]
      rw [e]
      constructor
      · intro H; cases H
      · intro H; exact absurd (by simpa using H 0 x rfl) h
theorem same_f : ∀ (k : Nat) (a b : TyD), SizeOf.sizeOf a < k → (rSameTy_f k a b = true ↔ a = b)
  | 0, _, _, h => absurd h (Nat.not_lt_zero _)
  | k + 1, a, b, h => by
    have hsz : ∀ x ∈ a.l, SizeOf.sizeOf x < k := by
      intro x hx
      have h1 := List.sizeOf_lt_of_mem hx
      have h2 := sz_TyD_l a
      omega
    rw [rSameTy_f]
    unfold rSameTy_b
    split
    · rename_i hc
      constructor
      · intro H; cases H
      · rintro rfl; simp at hc
    · rename_i hc
      have h1 : a.k = b.k := by
        by_cases q : a.k = b.k
        · exact q
        · exact absurd (.inl (.inl q)) hc
      have h2 : a.name = b.name := by
        by_cases q : a.name = b.name
        · exact q
        · exact absurd (.inl (.inr q)) hc
      have h3 : a.l.length = b.l.length := by
        by_cases q : (a.l.length : Int) = b.l.length
        · omega
        · exact absurd (.inr q) hc
      rw [sameL]
      constructor
      · intro H
        have hl : a.l = b.l := by
          refine List.ext_getElem h3 fun i q1 q2 => ?_
          have := H i a.l[i] (List.getElem?_eq_getElem q1)
          rw [Nat.zero_add, List.getD_eq_getElem?_getD, List.getElem?_eq_getElem q2] at this
          exact (same_f k _ _ (hsz _ (List.getElem_mem q1))).1 this
        cases a; cases b
        simp_all
      · rintro rfl i x hx
        rw [Nat.zero_add, List.getD_eq_getElem?_getD, hx]
        exact (same_f k x x (hsz _ (List.mem_of_getElem? hx))).2 rfl
theorem rSameTy_iff (a b : TyD) : rSameTy a b = true ↔ a = b := same_f _ a b (Nat.lt_succ_self _)
theorem rSameTy_refl (a : TyD) : rSameTy a a = true := (rSameTy_iff a a).2 rfl

/-- Is a type one that a value may have: no unit, in no box and behind no reference? -/
inductive GoodTy : TyD → Prop
  | mk (t : TyD) (h0 : t.k ≠ 0) (h : (t.k = 4 ∨ t.k = 5 ∨ t.k = 6) → ∀ x ∈ t.l, GoodTy x) : GoodTy t
theorem GoodTy.ne {t : TyD} (h : GoodTy t) : t.k ≠ 0 := by cases h; assumption
theorem GoodTy.in_ {t : TyD} (h : GoodTy t) (hk : t.k = 4 ∨ t.k = 5 ∨ t.k = 6) : ∀ x ∈ t.l, GoodTy x := by
  cases h with
  | mk _ _ h => exact h hk

theorem good_k {t : TyD} (h0 : t.k ≠ 0) (h4 : t.k ≠ 4) (h5 : t.k ≠ 5) (h6 : t.k ≠ 6) : GoodTy t := .mk t h0 fun h => by omega
theorem resolve_good : ∀ (k : Nat) (s : SourceD) (t : TyD), SizeOf.sizeOf t < k → (kResolve_f k s t).2 = 0 → GoodTy (kResolve_f k s t).1
  | 0, _, _, h, _ => absurd h (Nat.not_lt_zero _)
  | k + 1, s, t, h, hr => by
    rw [kResolve_f] at hr ⊢
    unfold kResolve_b at hr ⊢
    simp only [bnd, run_ite, Ctl.run_ret, Ctl.run_go] at hr ⊢
    by_cases h1 : t.k = 1
    · simp only [h1, if_true]
      simp
      exact good_k (t := t) (by omega) (by omega) (by omega) (by omega)
    by_cases h2 : t.k = 2
    · simp only [h1, h2] at hr ⊢
      simp at hr ⊢
      split at hr
      · rename_i q
        rw [if_pos q]
        split at hr
        · cases hr
        · rename_i q2
          rw [if_neg q2]
          exact good_k (by simp) (by simp) (by simp) (by simp)
      · rename_i q
        rw [if_neg q]
        exact good_k (t := t) (by omega) (by omega) (by omega) (by omega)
    by_cases h3 : t.k = 3
    · simp only [h1, h2, h3] at hr ⊢
      simp at hr ⊢
      split at hr
      · cases hr
      · rename_i q2
        rw [if_neg q2]
        exact good_k (t := t) (by omega) (by omega) (by omega) (by omega)
    by_cases h7 : t.k = 7
    · simp only [h1, h2, h3, h7] at hr ⊢
      simp at hr ⊢
      split at hr
      · cases hr
      · rename_i q2
        rw [if_neg q2]
        exact good_k (t := t) (by omega) (by omega) (by omega) (by omega)
    simp only [h1, h2, h3, h7, if_false] at hr ⊢
    by_cases hq : t.k = 4 ∨ t.k = 5 ∨ t.k = 6
    · have hb : (if t.k = 4 then true else if t.k = 5 then true else decide (t.k = 6)) = true := by
        rcases hq with q | q | q <;> simp [q]
      rw [if_pos hb] at hr ⊢
      by_cases hl : (t.l.length : Int) = 1
      · rw [if_neg (by simpa using hl)] at hr ⊢
        by_cases q3 : (kResolve_f k s (t.l.getD 0 default)).2 = 0
        · rw [if_neg (by simpa using q3)]
          simp only [not_true_eq_false, if_false]
          have hl : t.l.length = 1 := by omega
          have hmem : t.l.getD 0 default ∈ t.l := by
            rw [List.getD_eq_getElem?_getD, List.getElem?_eq_getElem (by omega)]
            exact List.getElem_mem _
          have hsz : SizeOf.sizeOf (t.l.getD 0 default) < k := by
            have q4 := List.sizeOf_lt_of_mem hmem
            have q5 := sz_TyD_l t
            omega
          refine .mk _ ?_ fun _ x hx => ?_
          · intro h0
            have h0 : t.k = 0 := h0
            omega
          · obtain rfl := List.mem_singleton.1 hx
            exact resolve_good k s _ hsz q3
        · rw [if_pos (by simpa using q3)] at hr
          exact absurd hr q3
      · rw [if_pos (by simpa using hl)] at hr
        simp at hr
    · have hb : ¬ (if t.k = 4 then true else if t.k = 5 then true else decide (t.k = 6)) = true := by
        have q4 : ¬ t.k = 4 := fun q => hq (.inl q)
        have q5 : ¬ t.k = 5 := fun q => hq (.inr (.inl q))
        have q6 : ¬ t.k = 6 := fun q => hq (.inr (.inr q))
        simp [q4, q5, q6]
      rw [if_neg hb] at hr
      simp at hr
theorem kResolve_good {s : SourceD} {t : TyD} (h : (kResolve s t).2 = 0) : GoodTy (kResolve s t).1 := resolve_good _ s t (Nat.lt_succ_self _) h

theorem eqTy_l_eq (r : TyD → TyD → Bool) (b : TyD) : ∀ (l : List TyD) (j : Nat), eqTy_l4 b.l r l j = rSameTy_b_l4 r b l j
  | [], _ => rfl
  | x :: l, j => by simp only [eqTy_l4, rSameTy_b_l4, bnd]; rw [eqTy_l_eq r b l]
theorem mSame_b_eq (r : TyD → TyD → Bool) (a b : TyD) : mSame_b r a b = rSameTy_b r a b := by
  unfold mSame_b rSameTy_b eqTy
  rw [eqTy_l_eq]
  by_cases h1 : a.k = b.k <;> by_cases h2 : a.name = b.name <;> by_cases h3 : (a.l.length : Int) = b.l.length <;> simp_all
theorem mSame_f_eq : ∀ k, mSame_f k = rSameTy_f k
  | 0 => rfl
  | k + 1 => by funext a b; simp only [mSame_f, rSameTy_f]; rw [mSame_f_eq k]; exact mSame_b_eq _ _ _
theorem mSame_eq : mSame = rSameTy := by funext a b; unfold mSame rSameTy; rw [mSame_f_eq]

theorem valid_l6 (s : SourceD) (b : BodyD) : ∀ (l : List LocalD), mValid_l6 s b l = .go () → ∀ x ∈ l, mLocal ⟨s, b⟩ x = true
  | [], _, x, hx => by cases hx
  | y :: l, h, x, hx => by
    simp only [mValid_l6] at h
    split at h
    · cases h
    · rename_i q
      rcases List.mem_cons.1 hx with rfl | hx
      · simpa using q
      · exact valid_l6 s b l h x hx
theorem valid_local {s : SourceD} {b : BodyD} (h : mValid s b = true) : ∀ x ∈ b.locals, mLocal ⟨s, b⟩ x = true := by
  unfold mValid at h
  simp only [bnd] at h
  split at h
  · cases h
  · cases hq : mValid_l6 s b b.locals with
    | ret r =>
      have : ∀ (l : List LocalD) (r : Bool), mValid_l6 s b l = .ret r → r = false := by
        intro l
        induction l with
        | nil => intro r h; cases h
        | cons y l ih =>
          intro r h
          simp only [mValid_l6] at h
          split at h
          · cases h; rfl
          · exact ih r h
      obtain rfl := this _ _ hq
      rw [hq] at h; cases h
    | go v => exact valid_l6 s b _ hq
theorem local_good {s : SourceD} {b : BodyD} (h : mValid s b = true) : ∀ x ∈ b.locals, GoodTy x.ty := by
  intro x hx
  have h1 := valid_local h x hx
  simp only [mLocal, Bool.and_eq_true, decide_eq_true_eq] at h1
  have h2 := kResolve_good h1.1.1
  have h3 := h1.1.2
  rw [mSame_eq] at h3
  rwa [(rSameTy_iff _ _).1 h3] at h2
theorem step_good {p0 : MirBodyD} {t : TyD} (hg : GoodTy t) (k : Int) (h : (mStep p0 t k).2 = true) : GoodTy (mStep p0 t k).1 := by
  by_cases hk : k = -1
  · subst hk
    rw [mStep_in] at h ⊢
    split at h
    · rename_i hc
      rw [if_pos hc]
      have hmem : t.l.getD 0 default ∈ t.l := by
        rw [List.getD_eq_getElem?_getD, List.getElem?_eq_getElem (by omega)]
        exact List.getElem_mem _
      exact hg.in_ hc.1 _ hmem
    · cases h
  · unfold mStep at h ⊢
    simp only [if_neg hk, bnd] at h ⊢
    split at h
    · cases h
    · rename_i hc
      rw [if_neg hc]
      exact kResolve_good (by simpa using h)
theorem spot_l_good {p0 : MirBodyD} : ∀ (l : List Int) (sh : Bool) (t : TyD) (v : Bool × TyD), GoodTy t → mSpot_l5 p0 l sh t = .go v → GoodTy v.2
  | [], _, _, _, hg, h => by simp only [mSpot_l5, Ctl.go.injEq] at h; subst h; exact hg
  | k :: l, sh, t, v, hg, h => by
    simp only [mSpot_l5] at h
    split at h
    · cases h
    · rename_i q
      exact spot_l_good l _ _ v (step_good hg k (by simpa using q)) h
theorem spot_good {s : SourceD} {b : BodyD} (h : mValid s b = true) {x : SpotD} (h0 : (mSpot ⟨s, b⟩ x).2.2 = 0) : GoodTy (mSpot ⟨s, b⟩ x).1 := by
  unfold mSpot at h0 ⊢
  split
  · rename_i hc
    rw [if_pos hc] at h0
    cases h0
  · rename_i hc
    rw [if_neg hc] at h0
    simp only [bnd] at h0 ⊢
    have hmem : b.locals.getD x.local_.toNat default ∈ b.locals := by
      have hlt : x.local_.toNat < b.locals.length := by
        have : ((⟨s, b⟩ : MirBodyD).b.locals.length : Int) = b.locals.length := rfl
        omega
      rw [List.getD_eq_getElem?_getD, List.getElem?_eq_getElem hlt]
      exact List.getElem_mem _
    have hg := local_good h _ hmem
    cases hq : mSpot_l5 ⟨s, b⟩ x.path false (b.locals.getD x.local_.toNat default).ty with
    | ret r =>
      obtain rfl := mSpot_ret _ _ _ _ _ hq
      rw [hq] at h0
      cases h0
    | go v => exact spot_l_good _ _ _ _ hg hq

theorem mValue_use (s : SourceD) (b : BodyD) (u : UseD) : mValueF s b (ValueD.mk 0 [u] (SpotD.mk 0 []) 0 0) = if (mUse ⟨s, b⟩ u).2 = 0 then ((mUse ⟨s, b⟩ u).1, 0) else (⟨0, [], []⟩, (mUse ⟨s, b⟩ u).2) := by
  unfold mValueF mValue mWhich mEmpty
  simp [bnd, Ctl.run]
theorem lMirUses_true (s : SourceD) (b : BodyD) (u : UseD) : lMirUses s b u = true := by
  unfold lMirUses mType
  split
  · rfl
  rename_i hc
  have hv : mValid s b = true := by
    by_cases q : mValid s b = true
    · exact q
    · exact absurd (.inr q) hc
  simp only [mValue_use]
  unfold mUse
  by_cases hn : u.num = true
  · simp only [hn, if_true]
    by_cases hm : u.move = true
    · simp [hm]
    · by_cases he : mEmpty u.s = true
      · have he' := he
        unfold mEmpty at he'
        simp only [Bool.and_eq_true, decide_eq_true_eq] at he'
        simp [hm, he, he'.1]
        have := he'.2
        simpa using this
      · have he' : ((decide (u.s.local_ = 0)) && (decide ((u.s.path.length : Int) = 0))) = false := by
          unfold mEmpty at he
          simpa using he
        simp only [hm, he]
        simp [Bool.eq_false_iff] at he' ⊢
        grind
  · simp only [if_neg hn]
    by_cases h0 : (mSpot ⟨s, b⟩ u.s).2.2 = 0
    · have hg := (spot_good hv h0).ne
      simp only [h0, not_true_eq_false, if_false]
      generalize (mSpot ⟨s, b⟩ u.s).1 = t at hg ⊢
      have hcp : kCopies t = ((decide (t.k = 1)) || (decide (t.k = 5))) := by
        unfold kCopies
        by_cases q1 : t.k = 1 <;> by_cases q5 : t.k = 5 <;> simp [hg, q1, q5]
      rw [hcp]
      generalize ((decide (t.k = 1)) || (decide (t.k = 5))) = c
      by_cases q2 : u.s.path = []
      · by_cases q1 : u.n = 0 <;> cases u.move <;> cases c <;> simp [q1, q2, rSameTy_refl]
      · have hp := List.length_pos_iff.2 q2
        by_cases q1 : u.n = 0 <;> cases u.move <;> cases c <;> simp [q1, q2, hp, rSameTy_refl]
    · have := mSpot_err _ _ h0
      simp [h0, this]
end Go.Proofs.Tryd
end
section
namespace Go.Proofs.Tryd
open Go Go.AM

theorem lMirSteps_true (s : SourceD) (b : BodyD) (x : SpotD) (k : Int) : lMirSteps s b x k = true := by
  unfold lMirSteps mType
  split
  · rfl
  simp only [mSpot_more]
  generalize ht : (mSpot ⟨s, b⟩ x).1 = t
  generalize hm : (mSpot ⟨s, b⟩ x).2.1 = m
  generalize he : (mSpot ⟨s, b⟩ x).2.2 = e
  by_cases h0 : e = 0
  · subst h0
    simp only [ne_eq, not_true_eq_false, if_false]
    by_cases hk : k = -1
    · subst hk
      simp only [spotStep, mStep_in, bnd, if_true]
      by_cases hc : (t.k = 4 ∨ t.k = 5 ∨ t.k = 6) ∧ (t.l.length : Int) = 1
      · obtain ⟨h1, h2⟩ := hc
        have h3 : (((decide (t.k = 4)) || (decide (t.k = 5))) || (decide (t.k = 6))) = true := by simp; omega
        simp [h1, h2, h3, Ctl.run, rSameTy_refl]
      · have h3 : ((((decide (t.k = 4)) || (decide (t.k = 5))) || (decide (t.k = 6))) && (decide ((t.l.length : Int) = 1))) = false := by
          rw [Bool.eq_false_iff]
          intro h
          simp only [Bool.and_eq_true, Bool.or_eq_true, decide_eq_true_eq] at h
          exact hc ⟨by omega, h.2⟩
        simp [hc, h3, Ctl.run]
    · simp only [if_neg hk, spotStep]
      by_cases hs : (mStep ⟨s, b⟩ t k).2 = true
      · obtain ⟨h1, h2⟩ := mStep_field _ _ _ hk hs
        simp [hs, h1, h2, hk, Ctl.run]
      · simp [hs, Ctl.run]
  · simp [h0]

end Go.Proofs.Tryd
end
section
namespace Go.Proofs.Tryd
open Go Go.AM
attribute [local simp] wpG_op wpG_nil contG_some wpG_guard guardG_v guardG_o guardG_tup gval pureOp stepG_if isPick pickG_pick pickB_b pickOK isCall step_move step_assign step_alloc step_box boxV_some step_load step_store step_binOp step_unOp step_fieldAddr faV step_indexAddr ixA_slc ixA_arr step_extract extV_tup step_nilCheck ncV_ptr ncV_rp ncV_fn ncV_mp step_build buildV step_buildSlice bsV step_index ixV_arr ixV_str step_append apB step_makeSlice msV_i step_makeFunc over step_len step_makeMap mmV step_mapUpdate step_insert muA_map muB_mp step_lookup lkA_map lkB_mp step_slice slcV_s slcV_sl slcV_ro cutB_some slObV_arr bound_none bound_some bndV_i lenB_str lenB_ro lenB_sl lenB_nil lenB_z ld_ptr ld_rp offV_ptr offV_rp idxV_ro idxV_sl unV_not unV_neg binV_int binV_str binV_eqlb binV_neqb intOp strOp St.put updL setOb St.ev toV St.lk cellsOf AM.valOf TK.agg stv fillV places TI.zero condT_true condT_false finS resL resSlot packV ren ren1 ren0 Value.cells builtinV appendV elemsOf keepT room_of wrap_in toIdx passed Function.comp_def take_len_map lenV touchOf hid tab1 tab2 tab3 tab4 tab5 tab6 tab7 tab8 tab9 tab10 tab11 tab12 tab13 tab14 tab15 tab16 tab17 tab18 tab19 tab20 tab21 tab22 tab23 tab24 tab25 tab26 tab27 tab28 tab29 tab30 tab31 tab32 tab33 tab34 tab35 tab36 tab37 tab38 tab39 tab40 tab41 tab42 tab43 tab44 tab45 tab46 tab47 tab48 tab49 tab50 tab51 tab52 tab53 tab54 tab55 tab57 tab58 tab59 tab61 tab62 tab63 tab64 tab65 tab66 tab67 tab68 tab69 tab70 tab71 tab72 tab73 tab74 tab75 tab76 tab77 tab78 tab79 tab80 tab81 tab82 tab83 tab84 tab85 tab86 tab87 tab88 tab89 tab90 tab91 tab92 tab93 tab94 tab95 tab96 tab97 tab98 tab99 tab100 tab101 tab103 tab104 tab105 tab106 tab107 tab108 tab109 tab110 tab111 tab112 tab113 tab114 tab115 tab116 tab117 tab118 tab119 tab120 tab121 tab122 tab123 tab124 tab125 tab126 tab127 tab128 tab129 tab130 tab131 tab132 tab133 tab135 tab137 tab138 tab140 tab141 tab142 tab143 tab144 tab145 tab146 tab147 tab148 tab149 tab150 tab151 tab152 tab153 tab155 tab156 tab157 tab158 tab159 tab160 tab161 tab162 tab163 tab164 tab165 tab166 tab167 tab168 tab170 tab171 tab172 tab173 tab174 tab175 tab176 tab177 tab178 tab179 tab180 tab181 tab182 tab186 tab187 tab188 tab189 tab190 tab191 tab192 tab193 tab194 tab195 armC_eq blockC_eq bodyC_eq enumC_eq fieldC_eq fnC_eq inC_eq localC_eq mirBodyC_eq operC_eq placeC_eq rvC_eq sourceC_eq spotC_eq stepC_eq stmtC_eq structC_eq tmC_eq tyC_eq useC_eq valueC_eq variantC_eq cutL_nil cutL_junk cutL_cons ren_arr ren_gone ren_unborn ren_var ren_row step_convert cvV_i cvV_sl cvV_s cvK_slc cvE_u8 bytesOf bor1 bor2 bor3 bor4
set_option linter.unusedSimpArgs false
set_option linter.unusedVariables false
set_option maxRecDepth 10000
set_option maxHeartbeats 4000000
noncomputable section
set_option linter.unusedVariables false
theorem rd_TyD (k : Nat) (xs : List V) (h : shpW tab k 54 xs) : ∃ x : TyD, xs = tyC x ∧ True := by
  obtain ⟨yss, h1, h2, k', hk, h3⟩ := shpW_fields h (show (tab 54).kind = .str [(0, 51), (1, 9), (2, 52)] from rfl)
  match yss, h2 with
  | [y0, y1, y2], _ =>
    obtain ⟨a0, rfl, b0⟩ := shpW_int (h3 0 _ _ rfl rfl) (show (tab 51).kind = .int .i64 from rfl)
    obtain ⟨a1, rfl, b1⟩ := shpW_str (h3 1 _ _ rfl rfl) (show (tab 9).kind = .string from rfl)
    obtain ⟨a2, rfl, b2, c2⟩ := shpW_slc tyC (fun x => True) (h3 2 _ _ rfl rfl) (show (tab 52).kind = .slc 54 from rfl) (fun k _ l hl => rd_TyD k l hl)
    exact ⟨⟨a0, a1, a2⟩, by rw [h1]; simp [tyC_eq], trivial⟩
termination_by k
decreasing_by all_goals omega

theorem rd_FieldD (k : Nat) (xs : List V) (h : shpW tab k 112 xs) : ∃ x : FieldD, xs = fieldC x ∧ True := by
  obtain ⟨yss, h1, h2, k', hk, h3⟩ := shpW_fields h (show (tab 112).kind = .str [(0, 9), (1, 54)] from rfl)
  match yss, h2 with
  | [y0, y1], _ =>
    obtain ⟨a0, rfl, b0⟩ := shpW_str (h3 0 _ _ rfl rfl) (show (tab 9).kind = .string from rfl)
    obtain ⟨a1, rfl, b1⟩ := rd_TyD _ _ (h3 1 _ _ rfl rfl)
    exact ⟨⟨a0, a1⟩, by rw [h1]; simp [fieldC_eq], trivial⟩

theorem rd_StructD (k : Nat) (xs : List V) (h : shpW tab k 72 xs) : ∃ x : StructD, xs = structC x ∧ x.fields.length ≤ 2199023255551 := by
  obtain ⟨yss, h1, h2, k', hk, h3⟩ := shpW_fields h (show (tab 72).kind = .str [(0, 9), (1, 4), (2, 70), (3, 3)] from rfl)
  match yss, h2 with
  | [y0, y1, y2, y3], _ =>
    obtain ⟨a0, rfl, b0⟩ := shpW_str (h3 0 _ _ rfl rfl) (show (tab 9).kind = .string from rfl)
    obtain ⟨a1, rfl⟩ := shpW_bool (h3 1 _ _ rfl rfl) (show (tab 4).kind = .bool from rfl)
    obtain ⟨a2, rfl, b2, c2⟩ := shpW_slc fieldC (fun x => True) (h3 2 _ _ rfl rfl) (show (tab 70).kind = .slc 112 from rfl) (fun k _ l hl => rd_FieldD k l hl)
    obtain ⟨a3, rfl, b3⟩ := shpW_int (h3 3 _ _ rfl rfl) (show (tab 3).kind = .int .i64 from rfl)
    exact ⟨⟨a0, a1, a2, a3⟩, by rw [h1]; simp [structC_eq], (show a2.length ≤ 2199023255551 by have := c2; rw [show (tab 112).bytes = 64 from rfl] at this; unfold reachBytes at this; omega)⟩

theorem rd_VariantD (k : Nat) (xs : List V) (h : shpW tab k 77 xs) : ∃ x : VariantD, xs = variantC x ∧ True := by
  obtain ⟨yss, h1, h2, k', hk, h3⟩ := shpW_fields h (show (tab 77).kind = .str [(0, 9), (1, 54)] from rfl)
  match yss, h2 with
  | [y0, y1], _ =>
    obtain ⟨a0, rfl, b0⟩ := shpW_str (h3 0 _ _ rfl rfl) (show (tab 9).kind = .string from rfl)
    obtain ⟨a1, rfl, b1⟩ := rd_TyD _ _ (h3 1 _ _ rfl rfl)
    exact ⟨⟨a0, a1⟩, by rw [h1]; simp [variantC_eq], trivial⟩

theorem rd_EnumD (k : Nat) (xs : List V) (h : shpW tab k 75 xs) : ∃ x : EnumD, xs = enumC x ∧ True := by
  obtain ⟨yss, h1, h2, k', hk, h3⟩ := shpW_fields h (show (tab 75).kind = .str [(0, 9), (1, 73), (2, 3)] from rfl)
  match yss, h2 with
  | [y0, y1, y2], _ =>
    obtain ⟨a0, rfl, b0⟩ := shpW_str (h3 0 _ _ rfl rfl) (show (tab 9).kind = .string from rfl)
    obtain ⟨a1, rfl, b1, c1⟩ := shpW_slc variantC (fun x => True) (h3 1 _ _ rfl rfl) (show (tab 73).kind = .slc 77 from rfl) (fun k _ l hl => rd_VariantD k l hl)
    obtain ⟨a2, rfl, b2⟩ := shpW_int (h3 2 _ _ rfl rfl) (show (tab 3).kind = .int .i64 from rfl)
    exact ⟨⟨a0, a1, a2⟩, by rw [h1]; simp [enumC_eq], trivial⟩

theorem rd_StepD (k : Nat) (xs : List V) (h : shpW tab k 195 xs) : ∃ x : StepD, xs = stepC x ∧ True := by
  obtain ⟨yss, h1, h2, k', hk, h3⟩ := shpW_fields h (show (tab 195).kind = .str [(0, 9)] from rfl)
  match yss, h2 with
  | [y0], _ =>
    obtain ⟨a0, rfl, b0⟩ := shpW_str (h3 0 _ _ rfl rfl) (show (tab 9).kind = .string from rfl)
    exact ⟨⟨a0⟩, by rw [h1]; simp [stepC_eq], trivial⟩

theorem rd_PlaceD (k : Nat) (xs : List V) (h : shpW tab k 116 xs) : ∃ x : PlaceD, xs = placeC x ∧ True := by
  obtain ⟨yss, h1, h2, k', hk, h3⟩ := shpW_fields h (show (tab 116).kind = .str [(0, 9), (1, 114)] from rfl)
  match yss, h2 with
  | [y0, y1], _ =>
    obtain ⟨a0, rfl, b0⟩ := shpW_str (h3 0 _ _ rfl rfl) (show (tab 9).kind = .string from rfl)
    obtain ⟨a1, rfl, b1, c1⟩ := shpW_slc stepC (fun x => True) (h3 1 _ _ rfl rfl) (show (tab 114).kind = .slc 195 from rfl) (fun k _ l hl => rd_StepD k l hl)
    exact ⟨⟨a0, a1⟩, by rw [h1]; simp [placeC_eq], trivial⟩

theorem rd_OperD (k : Nat) (xs : List V) (h : shpW tab k 121 xs) : ∃ x : OperD, xs = operC x ∧ True := by
  obtain ⟨yss, h1, h2, k', hk, h3⟩ := shpW_fields h (show (tab 121).kind = .str [(0, 4), (1, 3), (2, 116)] from rfl)
  match yss, h2 with
  | [y0, y1, y2], _ =>
    obtain ⟨a0, rfl⟩ := shpW_bool (h3 0 _ _ rfl rfl) (show (tab 4).kind = .bool from rfl)
    obtain ⟨a1, rfl, b1⟩ := shpW_int (h3 1 _ _ rfl rfl) (show (tab 3).kind = .int .i64 from rfl)
    obtain ⟨a2, rfl, b2⟩ := rd_PlaceD _ _ (h3 2 _ _ rfl rfl)
    exact ⟨⟨a0, a1, a2⟩, by rw [h1]; simp [operC_eq], trivial⟩

theorem rd_RvD (k : Nat) (xs : List V) (h : shpW tab k 119 xs) : ∃ x : RvD, xs = rvC x ∧ True := by
  obtain ⟨yss, h1, h2, k', hk, h3⟩ := shpW_fields h (show (tab 119).kind = .str [(0, 41), (1, 117), (2, 116), (4, 9), (5, 9)] from rfl)
  match yss, h2 with
  | [y0, y1, y2, y3, y4], _ =>
    obtain ⟨a0, rfl, b0⟩ := shpW_int (h3 0 _ _ rfl rfl) (show (tab 41).kind = .int .i64 from rfl)
    obtain ⟨a1, rfl, b1, c1⟩ := shpW_slc operC (fun x => True) (h3 1 _ _ rfl rfl) (show (tab 117).kind = .slc 121 from rfl) (fun k _ l hl => rd_OperD k l hl)
    obtain ⟨a2, rfl, b2⟩ := rd_PlaceD _ _ (h3 2 _ _ rfl rfl)
    obtain ⟨a3, rfl, b3⟩ := shpW_str (h3 3 _ _ rfl rfl) (show (tab 9).kind = .string from rfl)
    obtain ⟨a4, rfl, b4⟩ := shpW_str (h3 4 _ _ rfl rfl) (show (tab 9).kind = .string from rfl)
    exact ⟨⟨a0, a1, a2, a3, a4⟩, by rw [h1]; simp [rvC_eq], trivial⟩

mutual
theorem rd_ArmD (k : Nat) (xs : List V) (h : shpW tab k 126 xs) : ∃ x : ArmD, xs = armC x ∧ True := by
  obtain ⟨yss, h1, h2, k', hk, h3⟩ := shpW_fields h (show (tab 126).kind = .str [(0, 9), (1, 9), (2, 78)] from rfl)
  match yss, h2 with
  | [y0, y1, y2], _ =>
    obtain ⟨a0, rfl, b0⟩ := shpW_str (h3 0 _ _ rfl rfl) (show (tab 9).kind = .string from rfl)
    obtain ⟨a1, rfl, b1⟩ := shpW_str (h3 1 _ _ rfl rfl) (show (tab 9).kind = .string from rfl)
    obtain ⟨a2, rfl, b2, c2⟩ := shpW_slc stmtC (fun x => True) (h3 2 _ _ rfl rfl) (show (tab 78).kind = .slc 124 from rfl) (fun k _ l hl => rd_StmtD k l hl)
    exact ⟨⟨a0, a1, a2⟩, by rw [h1]; simp [armC_eq], trivial⟩
termination_by k
decreasing_by all_goals omega

theorem rd_StmtD (k : Nat) (xs : List V) (h : shpW tab k 124 xs) : ∃ x : StmtD, xs = stmtC x ∧ True := by
  obtain ⟨yss, h1, h2, k', hk, h3⟩ := shpW_fields h (show (tab 124).kind = .str [(0, 113), (1, 3), (2, 9), (3, 54), (6, 116), (8, 119), (14, 121), (18, 78), (19, 78), (20, 122)] from rfl)
  match yss, h2 with
  | [y0, y1, y2, y3, y4, y5, y6, y7, y8, y9], _ =>
    obtain ⟨a0, rfl, b0⟩ := shpW_int (h3 0 _ _ rfl rfl) (show (tab 113).kind = .int .i64 from rfl)
    obtain ⟨a1, rfl, b1⟩ := shpW_int (h3 1 _ _ rfl rfl) (show (tab 3).kind = .int .i64 from rfl)
    obtain ⟨a2, rfl, b2⟩ := shpW_str (h3 2 _ _ rfl rfl) (show (tab 9).kind = .string from rfl)
    obtain ⟨a3, rfl, b3⟩ := rd_TyD _ _ (h3 3 _ _ rfl rfl)
    obtain ⟨a4, rfl, b4⟩ := rd_PlaceD _ _ (h3 4 _ _ rfl rfl)
    obtain ⟨a5, rfl, b5⟩ := rd_RvD _ _ (h3 5 _ _ rfl rfl)
    obtain ⟨a6, rfl, b6⟩ := rd_OperD _ _ (h3 6 _ _ rfl rfl)
    obtain ⟨a7, rfl, b7, c7⟩ := shpW_slc stmtC (fun x => True) (h3 7 _ _ rfl rfl) (show (tab 78).kind = .slc 124 from rfl) (fun k _ l hl => rd_StmtD k l hl)
    obtain ⟨a8, rfl, b8, c8⟩ := shpW_slc stmtC (fun x => True) (h3 8 _ _ rfl rfl) (show (tab 78).kind = .slc 124 from rfl) (fun k _ l hl => rd_StmtD k l hl)
    obtain ⟨a9, rfl, b9, c9⟩ := shpW_slc armC (fun x => True) (h3 9 _ _ rfl rfl) (show (tab 122).kind = .slc 126 from rfl) (fun k _ l hl => rd_ArmD k l hl)
    exact ⟨⟨a0, a1, a2, a3, a4, a5, a6, a7, a8, a9⟩, by rw [h1]; simp [stmtC_eq], trivial⟩
termination_by k
decreasing_by all_goals omega
end

theorem rd_FnD (k : Nat) (xs : List V) (h : shpW tab k 80 xs) : ∃ x : FnD, xs = fnC x ∧ x.params.length ≤ 2199023255551 := by
  obtain ⟨yss, h1, h2, k', hk, h3⟩ := shpW_fields h (show (tab 80).kind = .str [(0, 9), (1, 70), (2, 78), (3, 3)] from rfl)
  match yss, h2 with
  | [y0, y1, y2, y3], _ =>
    obtain ⟨a0, rfl, b0⟩ := shpW_str (h3 0 _ _ rfl rfl) (show (tab 9).kind = .string from rfl)
    obtain ⟨a1, rfl, b1, c1⟩ := shpW_slc fieldC (fun x => True) (h3 1 _ _ rfl rfl) (show (tab 70).kind = .slc 112 from rfl) (fun k _ l hl => rd_FieldD k l hl)
    obtain ⟨a2, rfl, b2, c2⟩ := shpW_slc stmtC (fun x => True) (h3 2 _ _ rfl rfl) (show (tab 78).kind = .slc 124 from rfl) (fun k _ l hl => rd_StmtD k l hl)
    obtain ⟨a3, rfl, b3⟩ := shpW_int (h3 3 _ _ rfl rfl) (show (tab 3).kind = .int .i64 from rfl)
    exact ⟨⟨a0, a1, a2, a3⟩, by rw [h1]; simp [fnC_eq], (show a1.length ≤ 2199023255551 by have := c1; rw [show (tab 112).bytes = 64 from rfl] at this; unfold reachBytes at this; omega)⟩

theorem rd_SourceD (k : Nat) (xs : List V) (h : shpW tab k 26 xs) : ∃ x : SourceD, xs = sourceC x ∧ SrcOK x := by
  obtain ⟨yss, h1, h2, k', hk, h3⟩ := shpW_fields h (show (tab 26).kind = .str [(0, 22), (1, 23), (2, 24)] from rfl)
  match yss, h2 with
  | [y0, y1, y2], _ =>
    obtain ⟨a0, rfl, b0, c0⟩ := shpW_slc structC (fun x => x.fields.length ≤ 2199023255551) (h3 0 _ _ rfl rfl) (show (tab 22).kind = .slc 72 from rfl) (fun k _ l hl => rd_StructD k l hl)
    obtain ⟨a1, rfl, b1, c1⟩ := shpW_slc enumC (fun x => True) (h3 1 _ _ rfl rfl) (show (tab 23).kind = .slc 75 from rfl) (fun k _ l hl => rd_EnumD k l hl)
    obtain ⟨a2, rfl, b2, c2⟩ := shpW_slc fnC (fun x => x.params.length ≤ 2199023255551) (h3 2 _ _ rfl rfl) (show (tab 24).kind = .slc 80 from rfl) (fun k _ l hl => rd_FnD k l hl)
    exact ⟨⟨a0, a1, a2⟩, by rw [h1]; simp [sourceC_eq], ⟨b0, b2⟩⟩

theorem rd_LocalD (k : Nat) (xs : List V) (h : shpW tab k 68 xs) : ∃ x : LocalD, xs = localC x ∧ True := by
  obtain ⟨yss, h1, h2, k', hk, h3⟩ := shpW_fields h (show (tab 68).kind = .str [(0, 9), (1, 54)] from rfl)
  match yss, h2 with
  | [y0, y1], _ =>
    obtain ⟨a0, rfl, b0⟩ := shpW_str (h3 0 _ _ rfl rfl) (show (tab 9).kind = .string from rfl)
    obtain ⟨a1, rfl, b1⟩ := rd_TyD _ _ (h3 1 _ _ rfl rfl)
    exact ⟨⟨a0, a1⟩, by rw [h1]; simp [localC_eq], trivial⟩

theorem rd_SpotD (k : Nat) (xs : List V) (h : shpW tab k 38 xs) : ∃ x : SpotD, xs = spotC x ∧ True := by
  obtain ⟨yss, h1, h2, k', hk, h3⟩ := shpW_fields h (show (tab 38).kind = .str [(0, 3), (1, 36)] from rfl)
  match yss, h2 with
  | [y0, y1], _ =>
    obtain ⟨a0, rfl, b0⟩ := shpW_int (h3 0 _ _ rfl rfl) (show (tab 3).kind = .int .i64 from rfl)
    obtain ⟨a1, rfl, b1, c1⟩ := shpW_slc (fun z : Int => [V.i .i64 z]) (fun _ => True) (h3 1 _ _ rfl rfl) (show (tab 36).kind = .slc 3 from rfl) (fun k _ l hl => by obtain ⟨m, h, _⟩ := shpW_int hl (show (tab 3).kind = .int .i64 from rfl); exact ⟨m, h, trivial⟩)
    exact ⟨⟨a0, a1⟩, by rw [h1]; simp [spotC_eq], trivial⟩

theorem rd_UseD (k : Nat) (xs : List V) (h : shpW tab k 40 xs) : ∃ x : UseD, xs = useC x ∧ True := by
  obtain ⟨yss, h1, h2, k', hk, h3⟩ := shpW_fields h (show (tab 40).kind = .str [(0, 4), (1, 3), (2, 4), (3, 38)] from rfl)
  match yss, h2 with
  | [y0, y1, y2, y3], _ =>
    obtain ⟨a0, rfl⟩ := shpW_bool (h3 0 _ _ rfl rfl) (show (tab 4).kind = .bool from rfl)
    obtain ⟨a1, rfl, b1⟩ := shpW_int (h3 1 _ _ rfl rfl) (show (tab 3).kind = .int .i64 from rfl)
    obtain ⟨a2, rfl⟩ := shpW_bool (h3 2 _ _ rfl rfl) (show (tab 4).kind = .bool from rfl)
    obtain ⟨a3, rfl, b3⟩ := rd_SpotD _ _ (h3 3 _ _ rfl rfl)
    exact ⟨⟨a0, a1, a2, a3⟩, by rw [h1]; simp [useC_eq], trivial⟩

theorem rd_ValueD (k : Nat) (xs : List V) (h : shpW tab k 44 xs) : ∃ x : ValueD, xs = valueC x ∧ True := by
  obtain ⟨yss, h1, h2, k', hk, h3⟩ := shpW_fields h (show (tab 44).kind = .str [(0, 41), (1, 42), (2, 38), (4, 3), (5, 3)] from rfl)
  match yss, h2 with
  | [y0, y1, y2, y3, y4], _ =>
    obtain ⟨a0, rfl, b0⟩ := shpW_int (h3 0 _ _ rfl rfl) (show (tab 41).kind = .int .i64 from rfl)
    obtain ⟨a1, rfl, b1, c1⟩ := shpW_slc useC (fun x => True) (h3 1 _ _ rfl rfl) (show (tab 42).kind = .slc 40 from rfl) (fun k _ l hl => rd_UseD k l hl)
    obtain ⟨a2, rfl, b2⟩ := rd_SpotD _ _ (h3 2 _ _ rfl rfl)
    obtain ⟨a3, rfl, b3⟩ := shpW_int (h3 3 _ _ rfl rfl) (show (tab 3).kind = .int .i64 from rfl)
    obtain ⟨a4, rfl, b4⟩ := shpW_int (h3 4 _ _ rfl rfl) (show (tab 3).kind = .int .i64 from rfl)
    exact ⟨⟨a0, a1, a2, a3, a4⟩, by rw [h1]; simp [valueC_eq], trivial⟩

theorem rd_InD (k : Nat) (xs : List V) (h : shpW tab k 85 xs) : ∃ x : InD, xs = inC x ∧ True := by
  obtain ⟨yss, h1, h2, k', hk, h3⟩ := shpW_fields h (show (tab 85).kind = .str [(0, 83), (1, 3), (2, 38), (4, 44), (10, 40)] from rfl)
  match yss, h2 with
  | [y0, y1, y2, y3, y4], _ =>
    obtain ⟨a0, rfl, b0⟩ := shpW_int (h3 0 _ _ rfl rfl) (show (tab 83).kind = .int .i64 from rfl)
    obtain ⟨a1, rfl, b1⟩ := shpW_int (h3 1 _ _ rfl rfl) (show (tab 3).kind = .int .i64 from rfl)
    obtain ⟨a2, rfl, b2⟩ := rd_SpotD _ _ (h3 2 _ _ rfl rfl)
    obtain ⟨a3, rfl, b3⟩ := rd_ValueD _ _ (h3 3 _ _ rfl rfl)
    obtain ⟨a4, rfl, b4⟩ := rd_UseD _ _ (h3 4 _ _ rfl rfl)
    exact ⟨⟨a0, a1, a2, a3, a4⟩, by rw [h1]; simp [inC_eq], trivial⟩

theorem rd_TmD (k : Nat) (xs : List V) (h : shpW tab k 46 xs) : ∃ x : TmD, xs = tmC x ∧ True := by
  obtain ⟨yss, h1, h2, k', hk, h3⟩ := shpW_fields h (show (tab 46).kind = .str [(0, 35), (1, 3), (2, 38), (4, 44), (10, 40), (15, 36)] from rfl)
  match yss, h2 with
  | [y0, y1, y2, y3, y4, y5], _ =>
    obtain ⟨a0, rfl, b0⟩ := shpW_int (h3 0 _ _ rfl rfl) (show (tab 35).kind = .int .i64 from rfl)
    obtain ⟨a1, rfl, b1⟩ := shpW_int (h3 1 _ _ rfl rfl) (show (tab 3).kind = .int .i64 from rfl)
    obtain ⟨a2, rfl, b2⟩ := rd_SpotD _ _ (h3 2 _ _ rfl rfl)
    obtain ⟨a3, rfl, b3⟩ := rd_ValueD _ _ (h3 3 _ _ rfl rfl)
    obtain ⟨a4, rfl, b4⟩ := rd_UseD _ _ (h3 4 _ _ rfl rfl)
    obtain ⟨a5, rfl, b5, c5⟩ := shpW_slc (fun z : Int => [V.i .i64 z]) (fun _ => True) (h3 5 _ _ rfl rfl) (show (tab 36).kind = .slc 3 from rfl) (fun k _ l hl => by obtain ⟨m, h, _⟩ := shpW_int hl (show (tab 3).kind = .int .i64 from rfl); exact ⟨m, h, trivial⟩)
    exact ⟨⟨a0, a1, a2, a3, a4, a5⟩, by rw [h1]; simp [tmC_eq], trivial⟩

theorem rd_BlockD (k : Nat) (xs : List V) (h : shpW tab k 49 xs) : ∃ x : BlockD, xs = blockC x ∧ x.ins.length ≤ 764877654082 := by
  obtain ⟨yss, h1, h2, k', hk, h3⟩ := shpW_fields h (show (tab 49).kind = .str [(0, 47), (1, 46)] from rfl)
  match yss, h2 with
  | [y0, y1], _ =>
    obtain ⟨a0, rfl, b0, c0⟩ := shpW_slc inC (fun x => True) (h3 0 _ _ rfl rfl) (show (tab 47).kind = .slc 85 from rfl) (fun k _ l hl => rd_InD k l hl)
    obtain ⟨a1, rfl, b1⟩ := rd_TmD _ _ (h3 1 _ _ rfl rfl)
    exact ⟨⟨a0, a1⟩, by rw [h1]; simp [blockC_eq], (show a0.length ≤ 764877654082 by have := c0; rw [show (tab 85).bytes = 184 from rfl] at this; unfold reachBytes at this; omega)⟩

theorem rd_BodyD (k : Nat) (xs : List V) (h : shpW tab k 30 xs) : ∃ x : BodyD, xs = bodyC x ∧ x.blocks.length ≤ 606627104962 ∧ ∀ y ∈ x.blocks, y.ins.length ≤ 764877654082 := by
  obtain ⟨yss, h1, h2, k', hk, h3⟩ := shpW_fields h (show (tab 30).kind = .str [(0, 9), (1, 3), (2, 27), (3, 28)] from rfl)
  match yss, h2 with
  | [y0, y1, y2, y3], _ =>
    obtain ⟨a0, rfl, b0⟩ := shpW_str (h3 0 _ _ rfl rfl) (show (tab 9).kind = .string from rfl)
    obtain ⟨a1, rfl, b1⟩ := shpW_int (h3 1 _ _ rfl rfl) (show (tab 3).kind = .int .i64 from rfl)
    obtain ⟨a2, rfl, b2, c2⟩ := shpW_slc localC (fun x => True) (h3 2 _ _ rfl rfl) (show (tab 27).kind = .slc 68 from rfl) (fun k _ l hl => rd_LocalD k l hl)
    obtain ⟨a3, rfl, b3, c3⟩ := shpW_slc blockC (fun x => x.ins.length ≤ 764877654082) (h3 3 _ _ rfl rfl) (show (tab 28).kind = .slc 49 from rfl) (fun k _ l hl => rd_BlockD k l hl)
    exact ⟨⟨a0, a1, a2, a3⟩, by rw [h1]; simp [bodyC_eq], ⟨(show a3.length ≤ 606627104962 by have := c3; rw [show (tab 49).bytes = 232 from rfl] at this; unfold reachBytes at this; omega), b3⟩⟩
end
end Go.Proofs.Tryd
end
section
namespace Go.Proofs.YtakfpmogpnoibaaDoor
open Go.ChangeShapes Go.WideShapes Go.ChangeAt Go.RowKit Go.AM Go.Proofs.Tryd

theorem ownKnobNone : ownKnob Tryd.prog.godebug = none := by kernel_rfl
theorem laidOutAll : laidOutB Tryd.prog = true := by kernel_rfl
def readT : List TypeId := [3, 4, 9, 22, 23, 24, 26, 27, 28, 30, 35, 36, 38, 40, 41, 42, 44, 46, 47, 49, 51, 52, 54, 68, 70, 72, 73, 75, 77, 78, 80, 83, 85, 112, 113, 114, 116, 117, 119, 121, 122, 124, 126, 195]
theorem readT_closed : closedS tab readT = true := by decide +kernel

theorem gokOf {W : World} {L : List (String × DataW Unit)} (hL : L.drop 2 = [("internal/strconv.uint64pow10", Lib.tabData .u64 Lib.pow10Tab)])
    (hp : (L.all fun x => x.2.handleName?.isNone) = true) (h : laidMetH Tryd.prog L W) : GOK Tryd.prog W (fun _ => False) := by
  rw [MakeChecks.laidMetH_plain _ _ _ hp] at h
  obtain ⟨a, b, rfl⟩ : ∃ a b, L = [a, b, ("internal/strconv.uint64pow10", Lib.tabData .u64 Lib.pow10Tab)] := by
    match L, hL with
    | a :: b :: r, hL => exact ⟨a, b, by rw [show r = _ from hL]⟩
  have h1 := Lib.tabIs_of_head (g := 1) (t := 173) (e := 166) (n := 20) (by kernel_rfl) (by kernel_rfl) (by kernel_rfl) (by kernel_rfl) (by kernel_rfl) (by kernel_rfl) (laidMet.tail (laidMet.tail h))
  intro e he
  obtain rfl := List.mem_singleton.1 he
  refine ⟨h1, fun g hg => ⟨?_, not_false⟩⟩
  unfold Lib.TabIs World.var? at h1
  rw [hg] at h1
  simp only [Option.bind_some] at h1
  rcases Nat.lt_or_ge g W.heap.size with h' | h'
  · exact h'
  · rw [Array.getElem?_eq_none h'] at h1; cases h1
end Go.Proofs.YtakfpmogpnoibaaDoor
end
section
namespace Go.Proofs.YtakfpmogpnoibaaDoor
open Go.ChangeShapes Go.WideShapes Go.ChangeAt Go.RowKit Go.AM Go.Proofs.Tryd

set_option maxRecDepth 100000 in
theorem mirStepsLifted (HQ : ∀ (xs0 : List V) (xs1 : List V) (xs2 : List V) (z3 : Int) (n0 : Nat) (n1 : Nat) (n2 : Nat), shpW tab n0 26 xs0 → shpW tab n1 30 xs1 → shpW tab n2 38 xs2 → (Lit.int .i64 z3).wf = true → QC Tryd.prog 4 [.agg xs0, .agg xs1, .agg xs2, .i .i64 z3] [] (.b true) []) (os : Os) (started : os.Started) (H : Type) (enc : TypeId × Value → H) :
    ReturnsInHanded {} Tryd.checked os 4 .any (fun w args => (Rows.mirStepsSpec.pre enc Tryd.prog Tryd.f4 Rows.mirStepsRow.domain false w args ∧ laidMetH Tryd.prog Rows.mirStepsRow.laid w) ∧ sizedMet enc Tryd.prog Tryd.f4 (OpenSpec.ofChange Rows.mirStepsSpec) false w args)
      (Rows.mirStepsSpec.post enc Tryd.prog Tryd.f4 false true false false) := by
  refine returnsInHanded_of_change_and (C := Tryd.checked) (X := fun w _ => laidMetH Tryd.prog Rows.mirStepsRow.laid w) (fun _ _ _ hh h => h.of_heap hh) ownKnobNone started (by kernel_rfl) Tryd.func4
    (ChangeSpec.witness_shaped (enc := enc) (C := Tryd.checked) (os := os) (X := fun w _ => laidMetH Tryd.prog Rows.mirStepsRow.laid w) false (World.laidAll Tryd.prog os Rows.mirStepsRow.laid) #[.agg #[.slice none 0 0, .slice none 0 0, .slice none 0 0], .agg #[.string ⟨#[]⟩, .int .i64 0, .slice none 0 0, .slice none 0 0], .agg #[.int .i64 0, .slice none 0 0], .int .i64 0] 8 (World.laidAll_os _ _ _)
      (World.shaped_of_ZipB (by kernel_rfl) (by kernel_rfl)) (by kernel_rfl) (by kernel_rfl) (by kernel_rfl)
      (by rw [MakeChecks.laidMetH_plain _ _ _ (by kernel_rfl)]; exact laidMet_laidAll _ (by kernel_rfl) (by kernel_rfl))) ?_
  intro W base args ds gs before hval0 hW _ hwt hL _
  have hval : ∀ (j : Nat) t v, Tryd.f4.params[j]? = some t → args[j]? = some v → Value.okWide Tryd.prog W .any base t v := hval0
  have hW' := hW
  obtain ⟨p, q, hA0, hV, rfl, _, _⟩ := hW
  have hA : DataW.TrodAll enc Tryd.prog W 0 (fun _ => true) true Tryd.f4.params.toList args.toList ds p := hA0
  rw [Tryd.params4] at hA hval
  have hw : ∀ x ∈ DataW.weightsEach Tryd.prog (Tryd.f4.params.toList ++ Rows.mirStepsSpec.plain.varTypes Tryd.prog) (ds ++ gs), x ≤ reachBytes := fun x hx => of_decide_eq_true (List.all_eq_true.1 hwt x hx)
  obtain ⟨v0, v1, v2, v3, d0, d1, d2, d3, p0, p1, p2, p3, rfl, rfl, rfl, h0, h1, h2, h3⟩ := trodAll_four hA
  obtain ⟨rfl, rfl⟩ := trodVars_none hV
  rw [Tryd.params4] at hw
  have hw0 : ∀ q ∈ d0.weights Tryd.prog 26, q ≤ reachBytes := fun q hq => hw q (DataW.weights_mem_each (j := 0) rfl rfl q hq)
  have hw1 : ∀ q ∈ d1.weights Tryd.prog 30, q ≤ reachBytes := fun q hq => hw q (DataW.weights_mem_each (j := 1) rfl rfl q hq)
  have hw2 : ∀ q ∈ d2.weights Tryd.prog 38, q ≤ reachBytes := fun q hq => hw q (DataW.weights_mem_each (j := 2) rfl rfl q hq)
  obtain ⟨z3, rfl, rfl, rfl, wf3⟩ := open_int (show Tryd.prog.underlying 3 = some (.int .i64) from Tryd.underlying3) (hval 3 3 v3 rfl rfl) h3
  simp only [List.append_nil] at hW'
  have hlt : ∀ x ∈ p0 ++ p1 ++ p2, x.block < W.heap.size := fun x hx => by simpa using hW'.lt x (by simpa using hx)
  obtain ⟨xs0, ⟨n0, hs0⟩, hr0⟩ := arg_structW tabOK (T := tab) (t := 26) (S := readT) readT_closed rfl (by decide) (hval 0 26 v0 rfl rfl) h0 hw0
  obtain ⟨xs1, ⟨n1, hs1⟩, hr1⟩ := arg_structW tabOK (T := tab) (t := 30) (S := readT) readT_closed rfl (by decide) (hval 1 30 v1 rfl rfl) h1 hw1
  obtain ⟨xs2, ⟨n2, hs2⟩, hr2⟩ := arg_structW tabOK (T := tab) (t := 38) (S := readT) readT_closed rfl (by decide) (hval 2 38 v2 rfl rfl) h2 hw2
  refine ((HQ xs0 xs1 xs2 z3 n0 n1 n2 hs0 hs1 hs2 wf3).truth (gokOf (L := Rows.mirStepsRow.laid) (by kernel_rfl) (by kernel_rfl) hL) (vs := #[v0, v1, v2, .int .i64 z3]) (W := W) rfl (fun ok hok D j x u hx hu => ?_)).mono fun e W' ⟨he, hb⟩ => ?_
  · match j with
    | 0 =>
      simp only [List.getElem?_cons_succ, List.getElem?_cons_zero, Option.some.injEq] at hx
      subst hx
      obtain rfl : v0 = u := by simpa using hu
      exact hr0 ok hok D
    | 1 =>
      simp only [List.getElem?_cons_succ, List.getElem?_cons_zero, Option.some.injEq] at hx
      subst hx
      obtain rfl : v1 = u := by simpa using hu
      exact hr1 ok hok D
    | 2 =>
      simp only [List.getElem?_cons_succ, List.getElem?_cons_zero, Option.some.injEq] at hx
      subst hx
      obtain rfl : v2 = u := by simpa using hu
      exact hr2 ok hok D
    | 3 =>
      simp only [List.getElem?_cons_succ, List.getElem?_cons_zero, Option.some.injEq] at hx
      subst hx
      obtain rfl : Value.int .i64 z3 = u := by simpa using hu
      exact .pure (.i _ _)
    | j + 4 => simp at hx
  · subst he
    refine ⟨_, rfl, _, _, _, [], p0 ++ p1 ++ p2, [], by simpa using hW', ?_, ?_, ?_, hb.frame _, fun h => by cases h⟩
    · exact trodAll_mk1 (shut_bool Tryd.underlying4 true)
    · have hpl : p0 ++ (p1 ++ (p2 ++ (([] : List MemPlace)))) = p0 ++ p1 ++ p2 := by simp
      rw [← hpl]
      exact trodAll_mk4 (Below.trod laidOutAll (by kernel_rfl) (of_decide_eq_true (by kernel_rfl)) h0 hb (fun x hx => hlt x (by simp [hx]))) (Below.trod laidOutAll (by kernel_rfl) (of_decide_eq_true (by kernel_rfl)) h1 hb (fun x hx => hlt x (by simp [hx]))) (Below.trod laidOutAll (by kernel_rfl) (of_decide_eq_true (by kernel_rfl)) h2 hb (fun x hx => hlt x (by simp [hx]))) (Below.trod laidOutAll (by kernel_rfl) (of_decide_eq_true (by kernel_rfl)) h3 hb (fun x hx => by cases hx))
    · rfl

theorem mirStepsHolds (HQ : ∀ (xs0 : List V) (xs1 : List V) (xs2 : List V) (z3 : Int) (n0 : Nat) (n1 : Nat) (n2 : Nat), shpW tab n0 26 xs0 → shpW tab n1 30 xs1 → shpW tab n2 38 xs2 → (Lit.int .i64 z3).wf = true → QC Tryd.prog 4 [.agg xs0, .agg xs1, .agg xs2, .i .i64 z3] [] (.b true) []) : Rows.MirStepsSaid :=
  OpenClaim.holds_of_wide 4 Tryd.f4 rfl rfl rfl rfl rfl rfl rfl ⟨rfl, rfl, rfl, rfl, rfl⟩ rfl rfl rfl rfl rfl (by kernel_rfl) Tryd.func4 (by kernel_rfl)
    (of_decide_eq_true (by kernel_rfl)) (by unfold Func.isWrapper; rw [if_neg (by decide +kernel)]; exact ⟨rfl, rfl⟩)
    (fun os started H enc _ => mirStepsLifted HQ os started H enc)

theorem mirStepsCard (HQ : ∀ (xs0 : List V) (xs1 : List V) (xs2 : List V) (z3 : Int) (n0 : Nat) (n1 : Nat) (n2 : Nat), shpW tab n0 26 xs0 → shpW tab n1 30 xs1 → shpW tab n2 38 xs2 → (Lit.int .i64 z3).wf = true → QC Tryd.prog 4 [.agg xs0, .agg xs1, .agg xs2, .i .i64 z3] [] (.b true) []) : Rows.MirStepsCardSaid :=
  Claim7.holds_tied_plain_at .later [] [.data, .data, .data] true (true, "72fb29bbc89c1b556461d9e75bc770fd806c7bd127c4eb9758c0bfee7dd84cc1") false (mirStepsHolds HQ) (fun _ h => by cases h) (by kernel_rfl) (fun _ h => by cases h) mirSteps_row_tie rfl ⟨rfl, rfl⟩ (by kernel_rfl) rfl
    (fun f fn hf hfn => by
      obtain rfl : f = 4 := Option.some.inj ((show Tryd.prog.funcNamed "cocoon/cocoonlaw09.MirSteps" = some 4 by kernel_rfl).symm.trans hf) |>.symm
      obtain rfl : fn = Tryd.f4 := (Option.some.inj (Tryd.func4.symm.trans hfn)).symm
      exact ⟨by kernel_rfl, fun j t ht => by
        rw [Tryd.params4] at ht
        have hm : t ∈ [26, 30, 38, 3] := by simpa using Array.mem_of_getElem? ht
        have hall : ([26, 30, 38, 3].all fun u => !Tryd.prog.wantsStandIn u) = true := by kernel_rfl
        exact (show Tryd.prog.wantsStandIn t = false by simpa using List.all_eq_true.1 hall t hm)⟩)
    (by kernel_rfl)

theorem mirSteps_card : Rows.MirStepsCardSaid := mirStepsCard fun xs0 xs1 xs2 z3 n0 n1 n2 hs0 hs1 hs2 hz3 => by
  obtain ⟨s, rfl, hs⟩ := rd_SourceD n0 xs0 hs0
  obtain ⟨b, rfl, _⟩ := rd_BodyD n1 xs1 hs1
  obtain ⟨x, rfl, _⟩ := rd_SpotD n2 xs2 hs2
  have h := w_lMirSteps s b x z3 hs
  rw [lMirSteps_true] at h
  simpa [sourceC_eq, bodyC_eq, spotC_eq] using h
end Go.Proofs.YtakfpmogpnoibaaDoor
end
