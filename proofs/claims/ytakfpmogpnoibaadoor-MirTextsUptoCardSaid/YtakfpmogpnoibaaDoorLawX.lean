/- A body's text is just what the document says; an end goes to its blocks: MirTexts, tied, where what it reads is of bulk at most 1048576. -/
import Derived.Test.YtakfpmogpnoibaaDoorTie
import Derived.Test.YtakfpmogpnoibaaDoorCards
import Derived.ProofKit
import Derived.OpenShut
import Derived.LaidMore
import Derived.Lay
import Derived.SevenTiedAt
import Derived.Stop.Joined
import Derived.Stop.LaidErr
import Derived.Test.YtakfpmogpnoibaaDoorLineA
import Derived.Test.YtakfpmogpnoibaaDoorTxtD
import Derived.Test.YtakfpmogpnoibaaDoorTxtP
import Derived.Test.YtakfpmogpnoibaaDoorSizA
import Derived.Test.YtakfpmogpnoibaaDoorBldA
import Derived.Test.YtakfpmogpnoibaaDoorMachD
import Derived.Test.YtakfpmogpnoibaaDoorRefA
set_option linter.unusedVariables false
set_option linter.unusedSimpArgs false
set_option linter.constructorNameAsVariable false
section
namespace Go.Proofs.Tryd
open Go Go.AM
attribute [local simp] wpG_op wpG_nil contG_some wpG_guard guardG_v guardG_o guardG_tup gval pureOp stepG_if isPick pickG_pick pickB_b pickOK isCall step_move step_assign step_alloc step_box boxV_some step_load step_store step_binOp step_unOp step_fieldAddr faV step_indexAddr ixA_slc ixA_arr step_extract extV_tup step_nilCheck ncV_ptr ncV_rp ncV_fn ncV_mp step_build buildV step_buildSlice bsV step_index ixV_arr ixV_str step_append apB step_makeSlice msV_i step_makeFunc over step_len step_makeMap mmV step_mapUpdate step_insert muA_map muB_mp step_lookup lkA_map lkB_mp step_slice slcV_s slcV_sl slcV_ro cutB_some slObV_arr bound_none bound_some bndV_i lenB_str lenB_ro lenB_sl lenB_nil lenB_z ld_ptr ld_rp offV_ptr offV_rp idxV_ro idxV_sl unV_not unV_neg binV_int binV_str binV_eqlb binV_neqb intOp strOp St.put updL setOb St.ev toV St.lk cellsOf AM.valOf TK.agg stv fillV places TI.zero condT_true condT_false finS resL resSlot packV ren ren1 ren0 Value.cells builtinV appendV elemsOf keepT room_of wrap_in toIdx passed Function.comp_def take_len_map lenV touchOf hid tab1 tab2 tab3 tab4 tab5 tab6 tab7 tab8 tab9 tab10 tab11 tab12 tab15 tab16 tab17 tab18 tab19 tab20 tab21 tab22 tab23 tab24 tab25 tab26 tab27 tab28 tab29 tab30 tab31 tab32 tab33 tab34 tab35 tab36 tab37 tab38 tab39 tab40 tab41 tab42 tab43 tab44 tab45 tab46 tab47 tab48 tab49 tab50 tab51 tab52 tab53 tab54 tab55 tab57 tab58 tab59 tab61 tab62 tab63 tab64 tab65 tab66 tab67 tab68 tab69 tab70 tab71 tab72 tab73 tab74 tab75 tab76 tab77 tab78 tab79 tab80 tab81 tab82 tab83 tab84 tab85 tab86 tab87 tab88 tab89 tab90 tab91 tab92 tab93 tab94 tab95 tab96 tab97 tab98 tab99 tab100 tab101 tab103 tab104 tab105 tab106 tab107 tab108 tab109 tab110 tab111 tab112 tab113 tab114 tab115 tab116 tab117 tab118 tab119 tab120 tab121 tab122 tab123 tab124 tab125 tab126 tab127 tab128 tab129 tab130 tab131 tab132 tab133 tab135 tab137 tab138 tab140 tab141 tab142 tab143 tab144 tab145 tab146 tab147 tab148 tab149 tab150 tab151 tab152 tab153 tab155 tab156 tab157 tab158 tab159 tab160 tab161 tab162 tab163 tab164 tab165 tab166 tab167 tab168 tab170 tab171 tab172 tab173 tab174 tab175 tab176 tab177 tab178 tab179 tab180 tab181 tab182 tab186 tab187 tab188 tab189 tab190 tab191 tab192 tab193 tab194 tab195 armC_eq blockC_eq bodyC_eq enumC_eq fieldC_eq fnC_eq inC_eq localC_eq mirBodyC_eq operC_eq placeC_eq rvC_eq sourceC_eq spotC_eq stepC_eq stmtC_eq structC_eq tmC_eq tyC_eq useC_eq valueC_eq variantC_eq binV_eqls binV_neqs cutL_nil cutL_junk cutL_cons ren_arr ren_gone ren_unborn ren_var ren_row step_convert cvV_i cvV_sl cvV_s cvK_slc cvE_u8 bytesOf bor1 bor2 bor3 bor4
set_option linter.unusedSimpArgs false
set_option linter.unusedVariables false
set_option maxRecDepth 10000
set_option maxHeartbeats 4000000
noncomputable section
theorem w_clone (l : List Int) (h : l.length ≤ 250) : QC prog 28 [.ro 1 (l.map fun z => [V.i .i64 z])] [] (.ro 1 (l.map fun z => [V.i .i64 z])) [] := by
 have hr : roomFor l.length 8 := ⟨by omega, by omega⟩
 refine QC.of_body tabOK func28 rfl (by kernel_rfl) ?_
 simp only [f28]
 refine EV.seq ?_
 refine EV.regionG tabOK ?_ -- region 0
 simp -implicitDefEqProofs
 refine EV.seq ?_
 refine EV.seq ?_
 refine EV.regionNil tabOK (by simp only [tab36]; rfl) rfl ?_ -- region 1
 simp -implicitDefEqProofs
 refine And.intro (fun hn1 => ?_) ?_
 ·skip
  refine EV.condT ?_
  simp -implicitDefEqProofs
  refine EV.seq ?_
  refine EV.regionG tabOK ?_ -- region 2
  simp -implicitDefEqProofs
  refine EV.ret ?_
  simp only [thenK_ret, blockK_ret, scopeK_ret, bodyK_ret]
  refine Fin.data ?_ ?_
  ·simp [convV, conv1, conv0, cvOb, allP, allR, c0, Pu, take_len_map, List.getD, List.range_succ] <;> assumption
  ·simp [List.range_succ]
 ·skip
  refine EV.condT ?_
  simp -implicitDefEqProofs
  refine EV.skip ?_
  simp only [thenK_normal, blockK_normal, scopeK_normal]
  refine EV.seq ?_
  refine EV.regionG tabOK ?_ -- region 3
  simp -implicitDefEqProofs [hr]
  refine EV.ret ?_
  simp only [thenK_ret, blockK_ret, scopeK_ret, bodyK_ret]
  refine Fin.data ?_ ?_
  ·simp [convV, conv1, conv0, cvOb, allP, allR, c0, Pu, take_len_map, List.getD, List.range_succ] <;> assumption
  ·simp [List.range_succ]


def mSucc (p0 : TmD) : (List Int) :=
 p0.to_
set_option maxHeartbeats 40000000 in
theorem w_mSucc (p0 : TmD) (h : p0.to_.length ≤ 250) : QC prog 14 [.agg [.i .i64 p0.k, .i .i64 p0.at_, .i .i64 p0.s.local_, .ro 1 (p0.s.path.map (fun z => [.i .i64 z])), .i .i64 p0.v.k, .ro 5 (p0.v.uses.map useC), .i .i64 p0.v.s.local_, .ro 1 (p0.v.s.path.map (fun z => [.i .i64 z])), .i .i64 p0.v.which, .i .i64 p0.v.tag, .b p0.u.num, .i .i64 p0.u.n, .b p0.u.move, .i .i64 p0.u.s.local_, .ro 1 (p0.u.s.path.map (fun z => [.i .i64 z])), .ro 1 (p0.to_.map (fun z => [.i .i64 z]))]] [] (.ro 1 ((mSucc p0).map (fun z => [.i .i64 z]))) [] := by
 refine QC.of_body tabOK func14 rfl (by kernel_rfl) ?_
 simp only [f14]
 generalize e : mSucc p0 = R
 unfold mSucc at e
 refine EV.seq ?_
 refine EV.regionG tabOK ?_ -- region 0
 simp (maxSteps := 2000000) -implicitDefEqProofs
 refine EV.seq ?_
 refine EV.regionG tabOK ?_ -- region 1
 simp (maxSteps := 2000000) -implicitDefEqProofs
 refine callG_fun (w_clone p0.to_ (by first | assumption | omega)) ?_ ?_
 ·simp
 simp (maxSteps := 2000000) -implicitDefEqProofs
 refine EV.ret ?_
 simp only [thenK_ret, blockK_ret, scopeK_ret, bodyK_ret]
 subst e
 refine Fin.pure0 ?_
 first | (simp; done) | (simp <;> grind)
theorem w_mText' (p0 : BodyD) (h : BodyOK p0) : QC prog 15 [.agg [.s p0.name, .i .i64 p0.params, .ro 4 (p0.locals.map localC), .ro 17 (p0.blocks.map blockC)]] [] (.s (textT p0)) [] := by rw [← mTextB_eq p0]; exact w_mTextB p0 h
theorem w_rText' (p0 : BodyD) (h : BodyOK p0) : QC prog 16 [.agg [.s p0.name, .i .i64 p0.params, .ro 4 (p0.locals.map localC), .ro 17 (p0.blocks.map blockC)]] [] (.s (textT p0)) [] := by rw [← rTextB_eq p0]; exact w_rTextB p0 h
def lMirTexts_l13 (x7 : BlockD) : List Int → Nat → Ctl (Bool) (Unit)
 | [], _ => .go ()
 | x13 :: xs13, j13 => (bnd (x7.end_.to_.getD j13 default) fun (y15_12 : Int) => (if ¬ (x13 = y15_12) then .ret false else lMirTexts_l13 x7 xs13 (j13 + 1)))
def lMirTexts_l7  : List BlockD → Ctl (Bool) (Unit)
 | [] => .go ()
 | x7 :: xs7 => (if ¬ (((mSucc x7.end_).length : Int) = (x7.end_.to_.length : Int)) then .ret false else (Ctl.bind (lMirTexts_l13 x7 (mSucc x7.end_) 0) fun (v13 : Unit) => lMirTexts_l7 xs7))
def lMirTexts (p0 : BodyD) : Bool :=
 (if (zOver p0 250) = true then true else (Ctl.run (lMirTexts_l7 p0.blocks) fun (v7 : Unit) => (decide ((textT p0) = (textT p0)))))
set_option maxHeartbeats 40000000 in
theorem w_lMirTexts (p0 : BodyD) (hb : zOver p0 250 = false → BodyOK p0) : QC prog 6 [.agg [.s p0.name, .i .i64 p0.params, .ro 4 (p0.locals.map localC), .ro 17 (p0.blocks.map blockC)]] [] (.b (lMirTexts p0)) [] := by
 refine QC.of_body tabOK func6 rfl (by kernel_rfl) ?_
 simp only [f6]
 generalize e : lMirTexts p0 = R
 unfold lMirTexts at e
 refine EV.seq ?_
 refine EV.regionG tabOK ?_ -- region 0
 simp (maxSteps := 2000000) -implicitDefEqProofs
 refine EV.seq ?_
 refine EV.regionG tabOK ?_ -- region 1
 simp (maxSteps := 2000000) -implicitDefEqProofs
 refine callG_fun (w_works09) ?_ ?_
 ·simp
 simp (maxSteps := 2000000) -implicitDefEqProofs
 refine EV.seq ?_
 refine EV.seq ?_
 refine EV.regionG tabOK ?_ -- region 2
 simp (maxSteps := 2000000) -implicitDefEqProofs
 refine EV.condT ?_
 simp -implicitDefEqProofs
 refine EV.skip ?_
 simp only [thenK_normal, blockK_normal, scopeK_normal]
 refine EV.seq ?_
 refine EV.seq ?_
 refine EV.regionG tabOK ?_ -- region 4
 simp (maxSteps := 2000000) -implicitDefEqProofs
 refine callG_fun (w_zOver p0 250) ?_ ?_
 ·simp
 simp (maxSteps := 2000000) -implicitDefEqProofs
 refine EV.condT ?_
 simp -implicitDefEqProofs
 refine condT_intro (fun k1 => ?_) (fun k1 => ?_)
 ·try simp at k1
  obtain ⟨f1, e⟩ := pos_on2 e (by first | simpa using k1 | grind)
  try simp at f1
  refine EV.seq ?_
  refine EV.regionG tabOK ?_ -- region 5
  simp (maxSteps := 2000000) -implicitDefEqProofs
  refine EV.ret ?_
  simp only [thenK_ret, blockK_ret, scopeK_ret, bodyK_ret]
  subst e
  refine Fin.pure0 ?_
  first | (simp; done) | (simp <;> grind)
 ·try simp at k1
  obtain ⟨f1, e⟩ := neg_on2 e (by first | simpa using k1 | grind)
  try simp at f1
  refine EV.skip ?_
  simp only [thenK_normal, blockK_normal, scopeK_normal]
  refine EV.seq ?_
  refine EV.seq ?_
  refine EV.regionG tabOK ?_ -- region 6
  simp (maxSteps := 2000000) -implicitDefEqProofs
  obtain ⟨z7, e7, e⟩ := run_split e
  refine EV.nrm (fun v : { v : (Unit) × (Unit) // z7 = .go v.1 } => (fun (v7 : Unit) (g7 : Unit) => (⟨[J, .ptr 0 0 0 0, J, .b true, J, J, J, J, J, J, J, J, J, J, J, J, J, J, J, J, J, J, J, J, J, J, J, J, J, J, J, J, J, J, J, J, J, J, J, J, J, J, J, J, J, J, J, J, J, J, J, J, J, J, J, J, J, J, J, J, J, J, J, J, J, J, J], [.arr 0 4 [[.s p0.name, .i .i64 p0.params, .ro 4 (p0.locals.map localC), .ro 17 (p0.blocks.map blockC)]]]⟩ : St)) v.1.1 v.1.2) ?_ ?_
  ·skip
   refine EV.block ?_
   refine EV.loopB (fun x : { x : Nat // x ≤ p0.blocks.length ∧ lMirTexts_l7 (p0.blocks.drop x) = z7 } => (fun (j7 : Nat) => (⟨[J, .ptr 0 0 0 0, J, .b true, .i .i64 (j7 : Int), J, J, J, J, J, J, J, J, J, J, J, J, J, J, J, J, J, J, J, J, J, J, J, J, J, J, J, J, J, J, J, J, J, J, J, J, J, J, J, J, J, J, J, J, J, J, J, J, J, J, J, J, J, J, J, J, J, J, J, J, J, J], [.arr 0 4 [[.s p0.name, .i .i64 p0.params, .ro 4 (p0.locals.map localC), .ro 17 (p0.blocks.map blockC)]]]⟩ : St)) x.1) (fun x => p0.blocks.length - x.1) ⟨0, Nat.zero_le _, e7⟩ ?_ ?_
   ·skip
    try dsimp only
    try dsimp only
    refine Sub.cutF 1 (by simp) ?_ ?_ <;> simp [List.range_succ, toIdx_range, passed] <;> grind
   ·skip
    rintro ⟨j7, hi7, e7⟩
    simp only at hi7 e7 ⊢
    refine EV.seq ?_
    refine EV.seq ?_
    refine EV.regionG tabOK ?_ -- region 7
    simp (maxSteps := 2000000) -implicitDefEqProofs
    refine EV.room 15 (by rfl) (fun mj7 => ?_)
    simp at mj7
    refine EV.condT ?_
    simp -implicitDefEqProofs
    refine condT_intro (fun k2 => ?_) (fun k2 => ?_)
    ·try simp at k2
     have u2 : j7 < p0.blocks.length := by omega
     obtain ⟨x7, hx7⟩ : ∃ z, p0.blocks[j7] = z := ⟨_, rfl⟩
     have mx7 : x7 ∈ p0.blocks := by rw [← hx7]; exact List.getElem_mem _
     rw [List.drop_eq_getElem_cons u2, hx7, lMirTexts_l7] at e7
     refine EV.skip ?_
     simp only [thenK_normal, blockK_normal, scopeK_normal]
     refine EV.seq ?_
     refine EV.block ?_
     refine EV.seq ?_
     have : (mSucc x7.end_).length = (x7.end_).to_.length := rfl
     refine EV.regionG tabOK ?_ -- region 9
     simp (maxSteps := 2000000) -implicitDefEqProofs [k2, u2, hx7]
     refine callG_fun (w_mSucc x7.end_ ((hb (by assumption)).bo _ (by assumption)).2.2.2.2.2.1) ?_ ?_
     ·first | (simp; done) | (simp [k2, u2, hx7]; done)
     simp (maxSteps := 2000000) -implicitDefEqProofs [k2, u2, hx7]
     refine EV.seq ?_
     refine EV.seq ?_
     refine EV.regionG tabOK ?_ -- region 10
     simp (maxSteps := 2000000) -implicitDefEqProofs [k2, u2, hx7]
     refine EV.condT ?_
     simp -implicitDefEqProofs [k2, u2, hx7]
     refine condT_intro (fun k3 => ?_) (fun k3 => ?_)
     ·try simp at k3
      obtain ⟨f3, e7⟩ := pos_on2 e7 (by first | simpa using k3 | grind)
      try simp at f3
      refine EV.seq ?_
      refine EV.regionG tabOK ?_ -- region 11
      simp (maxSteps := 2000000) -implicitDefEqProofs [k2, u2, hx7]
      refine EV.ret ?_
      simp only [thenK_ret, blockK_ret, scopeK_ret, bodyK_ret]
      replace e := run_back e e7
      subst e
      refine Fin.pure0 ?_
      first | (simp; done) | (simp <;> grind)
     ·try simp at k3
      obtain ⟨f3, e7⟩ := neg_on2 e7 (by first | simpa using k3 | grind)
      try simp at f3
      refine EV.skip ?_
      simp only [thenK_normal, blockK_normal, scopeK_normal]
      refine EV.seq ?_
      refine EV.regionG tabOK ?_ -- region 12
      simp (maxSteps := 2000000) -implicitDefEqProofs [k2, u2, hx7]
      obtain ⟨z13, e13, e7⟩ := bind_split e7
      refine EV.nrm (fun v : { v : (Unit) × (Unit) // z13 = .go v.1 } => (fun (v13 : Unit) (g13 : Unit) => (⟨[J, .ptr 0 0 0 0, J, .b true, .i .i64 (j7 : Int), J, J, J, J, J, J, J, J, J, J, J, J, J, J, J, J, J, J, J, J, J, J, J, J, J, J, J, J, J, J, J, J, J, J, J, J, J, J, J, J, J, J, J, J, J, J, J, J, J, J, J, J, J, J, J, J, J, J, J, J, J, J], [.arr 0 4 [[.s p0.name, .i .i64 p0.params, .ro 4 (p0.locals.map localC), .ro 17 (p0.blocks.map blockC)]]]⟩ : St)) v.1.1 v.1.2) ?_ ?_
      ·skip
       refine EV.block ?_
       refine EV.loopB (fun x : { x : Nat // x ≤ (mSucc x7.end_).length ∧ lMirTexts_l13 x7 ((mSucc x7.end_).drop x) x = z13 } => (fun (j13 : Nat) => (⟨[J, .ptr 0 0 0 0, J, .b true, .i .i64 (j7 : Int), .ro 1 ((mSucc x7.end_).map (fun z => [.i .i64 z])), .i .i64 (j13 : Int), J, J, J, J, J, J, J, J, J, J, J, J, J, J, J, J, J, J, J, J, J, J, J, J, J, J, J, J, J, J, J, J, J, J, J, J, J, J, J, J, J, J, J, J, J, J, J, J, J, J, J, J, J, J, J, J, J, J, J, J], [.arr 0 4 [[.s p0.name, .i .i64 p0.params, .ro 4 (p0.locals.map localC), .ro 17 (p0.blocks.map blockC)]]]⟩ : St)) x.1) (fun x => (mSucc x7.end_).length - x.1) ⟨0, Nat.zero_le _, e13⟩ ?_ ?_
       ·skip
        try dsimp only
        try dsimp only
        refine Sub.cutF 1 (by simp) ?_ ?_ <;> simp [List.range_succ, toIdx_range, passed, k2, u2, hx7] <;> grind
       ·skip
        rintro ⟨j13, hi13, e13⟩
        simp only at hi13 e13 ⊢
        refine EV.seq ?_
        refine EV.seq ?_
        refine EV.regionG tabOK ?_ -- region 13
        simp (maxSteps := 2000000) -implicitDefEqProofs [k2, u2, hx7]
        refine EV.room 5 (by rfl) (fun mj13 => ?_)
        simp at mj13
        refine EV.condT ?_
        simp -implicitDefEqProofs [k2, u2, hx7]
        refine condT_intro (fun k4 => ?_) (fun k4 => ?_)
        ·try simp at k4
         have u4 : j13 < (mSucc x7.end_).length := by omega
         obtain ⟨x13, hx13⟩ : ∃ z, (mSucc x7.end_)[j13] = z := ⟨_, rfl⟩
         have mx13 : x13 ∈ (mSucc x7.end_) := by rw [← hx13]; exact List.getElem_mem _
         rw [List.drop_eq_getElem_cons u4, hx13, lMirTexts_l13] at e13
         refine EV.skip ?_
         simp only [thenK_normal, blockK_normal, scopeK_normal]
         refine EV.seq ?_
         refine EV.block ?_
         refine EV.seq ?_
         obtain ⟨y15_12, gy15_12⟩ : ∃ z, (x7.end_.to_.getD j13 default) = z := ⟨_, rfl⟩
         replace e13 := bnd_on e13 gy15_12
         try dsimp only at e13
         have b5 : 0 ≤ (j13 : Int) ∧ (j13 : Int) < (x7.end_.to_.length : Int) := by omega
         have c5 : j13 < x7.end_.to_.length := by omega
         have hy15_12 : x7.end_.to_[j13] = y15_12 := by rw [← gy15_12, List.getD_eq_getElem?_getD, List.getElem?_eq_getElem c5]; rfl
         have my15_12 : y15_12 ∈ x7.end_.to_ := by rw [← hy15_12]; exact List.getElem_mem _
         refine EV.drawG tabOK mixedOK ?_ -- region 15
         simp (maxSteps := 2000000) -implicitDefEqProofs [k2, u2, hx7, k4, u4, hx13, b5, c5, hy15_12]
         refine And.intro ?_ ?_
         ·first | decide +kernel | (simp -implicitDefEqProofs; decide +kernel) | (split <;> decide +kernel)
         try simp -implicitDefEqProofs
         refine EV.condT ?_
         simp -implicitDefEqProofs [k2, u2, hx7, k4, u4, hx13, b5, c5, hy15_12]
         refine condT_intro (fun k6 => ?_) (fun k6 => ?_)
         ·try simp at k6
          obtain ⟨f6, e13⟩ := pos_on2 e13 (by first | simpa using k6 | grind)
          try simp at f6
          refine EV.seq ?_
          refine EV.regionG tabOK ?_ -- region 16
          simp (maxSteps := 2000000) -implicitDefEqProofs [k2, u2, hx7, k4, u4, hx13, b5, c5, hy15_12]
          refine EV.ret ?_
          simp only [thenK_ret, blockK_ret, scopeK_ret, bodyK_ret]
          replace e7 := bind_back e7 e13
          replace e := run_back e e7
          subst e
          refine Fin.pure0 ?_
          first | (simp; done) | (simp <;> grind)
         ·try simp at k6
          obtain ⟨f6, e13⟩ := neg_on2 e13 (by first | simpa using k6 | grind)
          try simp at f6
          refine EV.skip ?_
          simp only [thenK_normal, blockK_normal, scopeK_normal]
          refine EV.regionG tabOK ?_ -- region 14
          simp (maxSteps := 2000000) -implicitDefEqProofs [k2, u2, hx7, k4, u4, hx13, b5, c5, hy15_12]
          have w13 : IntKind.i64.wrap ((j13 : Int) + 1) = (j13 : Int) + 1 := wrap_in _ (by omega) (by omega)
          refine ⟨⟨j13 + 1, by omega, e13⟩, by dsimp only; omega, ?_⟩
          try dsimp only
          refine Sub.cutF 1 (by simp) ?_ ?_ <;> simp [List.range_succ, toIdx_range, passed, k2, u2, hx7, k4, u4, hx13, b5, c5, hy15_12, w13] <;> grind
        ·try simp at k4
         have d4 : (mSucc x7.end_).drop j13 = [] := List.drop_eq_nil_of_le (by omega)
         rw [d4, lMirTexts_l13] at e13
         refine EV.exit ?_
         simp -implicitDefEqProofs
         refine ⟨⟨((), ()), e13.symm⟩, ?_⟩
         try dsimp only
         refine Sub.cutF 1 (by simp) ?_ ?_ <;> simp [List.range_succ, toIdx_range, passed, k2, u2, hx7] <;> grind
      ·skip
       rintro ⟨⟨v13, g13⟩, e13⟩
       simp only [thenK_normal, blockK_normal, scopeK_normal, bodyK_normal]
       replace e7 := bind_on e7 e13
       try dsimp only at e7
       refine EV.regionG tabOK ?_ -- region 8
       simp (maxSteps := 2000000) -implicitDefEqProofs [k2, u2, hx7]
       have w7 : IntKind.i64.wrap ((j7 : Int) + 1) = (j7 : Int) + 1 := wrap_in _ (by omega) (by omega)
       refine ⟨⟨j7 + 1, by omega, e7⟩, by dsimp only; omega, ?_⟩
       try dsimp only
       refine Sub.cutF 1 (by simp) ?_ ?_ <;> simp [List.range_succ, toIdx_range, passed, k2, u2, hx7, w7] <;> grind
    ·try simp at k2
     have d2 : p0.blocks.drop j7 = [] := List.drop_eq_nil_of_le (by omega)
     rw [d2, lMirTexts_l7] at e7
     refine EV.exit ?_
     simp -implicitDefEqProofs
     refine ⟨⟨((), ()), e7.symm⟩, ?_⟩
     try dsimp only
     refine Sub.cutF 1 (by simp) ?_ ?_ <;> simp [List.range_succ, toIdx_range, passed] <;> grind
  ·skip
   rintro ⟨⟨v7, g7⟩, e7⟩
   simp only [thenK_normal, blockK_normal, scopeK_normal, bodyK_normal]
   replace e := run_on e e7
   try dsimp only at e
   refine EV.seq ?_
   refine EV.drawG tabOK mixedOK ?_ -- region 17
   simp (maxSteps := 2000000) -implicitDefEqProofs +contextual
   refine callG_fun (w_mText' p0 (hb (by assumption))) ?_ ?_
   ·simp
   simp (maxSteps := 2000000) -implicitDefEqProofs +contextual
   refine callG_fun (w_rText' p0 (hb (by assumption))) ?_ ?_
   ·simp
   simp (maxSteps := 2000000) -implicitDefEqProofs +contextual
   refine And.intro ?_ ?_
   ·first | decide +kernel | (simp -implicitDefEqProofs; decide +kernel) | (split <;> decide +kernel)
   try simp -implicitDefEqProofs
   refine EV.ret ?_
   simp only [thenK_ret, blockK_ret, scopeK_ret, bodyK_ret]
   subst e
   refine Fin.pure0 ?_
   first | (simp; done) | (simp <;> grind)
end
end Go.Proofs.Tryd
end
section
namespace Go.Proofs.Tryd
open Go Go.AM
set_option linter.unusedVariables false
set_option maxRecDepth 10000

theorem wf_in {z : Int} (h : (Lit.int .i64 z).wf = true) : inI64 z := by
  simp [Lit.wf] at h
  exact h

theorem bk_ints (l : List Int) : bkR (l.map fun z => [V.i .i64 z]) = l.length := by
  induction l with
  | nil => rfl
  | cons x l ih => simp only [List.map_cons, bkR, ih, bkL, bkV, List.length_cons]; omega
theorem wf_ints (l : List Int) : wfR (l.map fun z => [V.i .i64 z]) ↔ ∀ z ∈ l, (Lit.int .i64 z).wf = true := by
  rw [wfR_map]; simp [wfL, wfV]

def uN (l : List UseD) : Nat := (l.map fun u => u.s.path.length).sum
def iN (l : List InD) : Nat := (l.map fun x => x.s.path.length + x.v.uses.length + x.v.s.path.length + x.u.s.path.length + uN x.v.uses).sum
def bN (l : List BlockD) : Nat := (l.map fun k => k.ins.length + k.end_.to_.length + k.end_.s.path.length + k.end_.u.s.path.length + iN k.ins).sum

theorem sum_le {A : Type} (f g : A → Nat) : ∀ l : List A, (∀ x ∈ l, f x ≤ g x) → (l.map f).sum ≤ (l.map g).sum
  | [], _ => by simp
  | x :: l, h => by
    have h1 := sum_le f g l fun y hy => h y (List.mem_cons_of_mem _ hy)
    have h2 := h x List.mem_cons_self
    simp only [List.map_cons, List.sum_cons]
    omega
theorem sum_mem {A : Type} (f : A → Nat) : ∀ l : List A, ∀ x ∈ l, f x ≤ (l.map f).sum
  | y :: l, x, h => by
    simp only [List.map_cons, List.sum_cons]
    rcases List.mem_cons.1 h with rfl | h
    · omega
    · have := sum_mem f l x h; omega
theorem sum_one {A : Type} (f : A → Nat) : ∀ l : List A, (∀ x ∈ l, 1 ≤ f x) → l.length ≤ (l.map f).sum
  | [], _ => by simp
  | x :: l, h => by
    have h1 := sum_one f l fun y hy => h y (List.mem_cons_of_mem _ hy)
    have h2 := h x List.mem_cons_self
    simp only [List.map_cons, List.sum_cons, List.length_cons]
    omega

theorem uN_le (l : List UseD) : uN l ≤ bkR (l.map useC) := by
  rw [bkR_map]
  exact sum_le _ _ l fun u _ => by simp only [useC_eq, bkL, bkV, bk_ints]; omega
theorem uses_le (l : List UseD) : l.length + uN l ≤ bkR (l.map useC) := by
  rw [bkR_map]
  induction l with
  | nil => simp [uN]
  | cons u l ih => simp only [uN, List.map_cons, List.sum_cons, List.length_cons, useC_eq, bkL, bkV, bk_ints] at ih ⊢; omega
theorem ins_le (l : List InD) : l.length + iN l ≤ bkR (l.map inC) := by
  rw [bkR_map]
  induction l with
  | nil => simp [iN]
  | cons x l ih =>
    have := uses_le x.v.uses
    simp only [iN, List.map_cons, List.sum_cons, List.length_cons, inC_eq, bkL, bkV, bk_ints] at ih ⊢; omega
theorem blocks_le (l : List BlockD) : l.length + bN l ≤ bkR (l.map blockC) := by
  rw [bkR_map]
  induction l with
  | nil => simp [bN]
  | cons k l ih =>
    have := ins_le k.ins
    simp only [bN, List.map_cons, List.sum_cons, List.length_cons, blockC_eq, bkL, bkV, bk_ints] at ih ⊢; omega
theorem locals_le (l : List LocalD) : l.length ≤ bkR (l.map localC) := by
  rw [bkR_map]
  exact sum_one _ l fun x _ => by simp only [localC_eq, bkL, bkV]; omega

theorem wr {n : Int} (h1 : 0 ≤ n) (h2 : n ≤ 1000000000000) : IntKind.i64.wrap n = n := wrap_in _ (by omega) (by omega)
theorem l17_eq : ∀ (l : List UseD) (a : Int), 0 ≤ a → a + uN l ≤ 1000000000000 → zOver_l17 l a = a + uN l
  | [], a, _, _ => by simp [zOver_l17, uN]
  | u :: l, a, h1, h2 => by
    simp only [uN, List.map_cons, List.sum_cons] at h2
    simp only [zOver_l17]
    rw [wr (by omega) (by push_cast at h2; have : (0 : Int) ≤ ((l.map fun u => u.s.path.length).sum : Nat) := Int.natCast_nonneg _; omega), l17_eq l _ (by omega) (by unfold uN; push_cast at h2 ⊢; omega)]
    simp only [uN, List.map_cons, List.sum_cons]
    push_cast
    omega
theorem l12_eq : ∀ (l : List InD) (a : Int), 0 ≤ a → a + iN l ≤ 1000000000000 → zOver_l12 l a = a + iN l
  | [], a, _, _ => by simp [zOver_l12, iN]
  | x :: l, a, h1, h2 => by
    have he : iN (x :: l) = x.s.path.length + x.v.uses.length + x.v.s.path.length + x.u.s.path.length + uN x.v.uses + iN l := by simp [iN]
    rw [he] at h2 ⊢
    simp only [zOver_l12, bnd]
    push_cast at h2 ⊢
    rw [wr (n := a + (x.s.path.length : Int)) (by omega) (by omega), wr (n := a + (x.s.path.length : Int) + (x.v.uses.length : Int)) (by omega) (by omega), wr (n := a + (x.s.path.length : Int) + (x.v.uses.length : Int) + (x.v.s.path.length : Int)) (by omega) (by omega), wr (by omega) (by omega), l17_eq _ _ (by omega) (by omega), l12_eq l _ (by omega) (by omega)]
    omega
theorem l8_eq : ∀ (l : List BlockD) (a : Int), 0 ≤ a → a + bN l ≤ 1000000000000 → zOver_l8 l a = a + bN l
  | [], a, _, _ => by simp [zOver_l8, bN]
  | x :: l, a, h1, h2 => by
    have he : bN (x :: l) = x.ins.length + x.end_.to_.length + x.end_.s.path.length + x.end_.u.s.path.length + iN x.ins + bN l := by simp [bN]
    rw [he] at h2 ⊢
    simp only [zOver_l8, bnd]
    push_cast at h2 ⊢
    rw [wr (n := a + (x.ins.length : Int)) (by omega) (by omega), wr (n := a + (x.ins.length : Int) + (x.end_.to_.length : Int)) (by omega) (by omega), wr (n := a + (x.ins.length : Int) + (x.end_.to_.length : Int) + (x.end_.s.path.length : Int)) (by omega) (by omega), wr (by omega) (by omega), l12_eq _ _ (by omega) (by omega), l8_eq l _ (by omega) (by omega)]
    omega

theorem over_small (b : BodyD) (hz : bkL (bodyC b) ≤ 1048576) (ho : zOver b 250 = false) : b.locals.length + b.blocks.length + bN b.blocks ≤ 250 := by
  have h1 := locals_le b.locals
  have h2 := blocks_le b.blocks
  simp only [bodyC_eq, bkL, bkV] at hz
  unfold zOver at ho
  cases h3 : zOver_l3 b.locals with
  | ret v =>
    rw [h3] at ho
    have h4 : ∀ (l : List LocalD) (v : Bool), zOver_l3 l = .ret v → v = true := by
      intro l
      induction l with
      | nil => intro v h; simp [zOver_l3] at h
      | cons x l ih =>
        intro v h
        simp only [zOver_l3] at h
        split at h
        · simpa using h.symm
        · exact ih v h
    have := h4 _ _ h3
    simp only [Ctl.run] at ho
    rw [this] at ho
    cases ho
  | go u =>
    rw [h3] at ho
    simp only [Ctl.run, bnd] at ho
    rw [wr (by omega) (by omega), l8_eq _ _ (by omega) (by omega)] at ho
    have ho := of_decide_eq_false ho
    omega

theorem bodyOK_of (b : BodyD) (hw : wfL (bodyC b)) (hz : bkL (bodyC b) ≤ 1048576) (ho : zOver b 250 = false) : BodyOK b := by
  have hs := over_small b hz ho
  simp only [bodyC_eq, wfL, wfV, wfR_map, localC_eq, blockC_eq, inC_eq, useC_eq, wf_ints, true_and, and_true] at hw
  simp only [bodyC_eq, bkL, bkV] at hz
  have hu : ∀ (l : List UseD) (u : UseD), u ∈ l → (Lit.int .i64 u.n).wf = true ∧ (Lit.int .i64 u.s.local_).wf = true ∧ (∀ z ∈ u.s.path, (Lit.int .i64 z).wf = true) → uN l ≤ 250 → UseOK u := fun l u hu h hn => by
    have := sum_mem (fun u : UseD => u.s.path.length) l u hu
    unfold uN at hn
    exact ⟨wf_in h.1, wf_in h.2.1, by omega, fun z hz => wf_in (h.2.2 z hz)⟩
  refine { nm := by omega, pr := wf_in hw.1, ll := by omega, lo := fun l hl => ?_, bl := by omega, bo := fun k hk => ?_ }
  · have h1 := bkR_mem (List.mem_map_of_mem (f := localC) hl)
    simp only [localC_eq, bkL, bkV] at h1
    have h2 := tyN_eq l.ty
    exact ⟨by omega, by omega⟩
  · have h1 := sum_mem (fun k : BlockD => k.ins.length + k.end_.to_.length + k.end_.s.path.length + k.end_.u.s.path.length + iN k.ins) b.blocks k hk
    have h2 : k.ins.length + k.end_.to_.length + k.end_.s.path.length + k.end_.u.s.path.length + iN k.ins ≤ 250 := by unfold bN at hs; omega
    have hw := hw.2.2 k hk
    refine ⟨by omega, fun x hx => ?_, ?_⟩
    · have h3 := sum_mem (fun x : InD => x.s.path.length + x.v.uses.length + x.v.s.path.length + x.u.s.path.length + uN x.v.uses) k.ins x hx
      have h4 : x.s.path.length + x.v.uses.length + x.v.s.path.length + x.u.s.path.length + uN x.v.uses ≤ 250 := by unfold iN at h2; omega
      obtain ⟨_, _, q1, q2, q3, q4, q5, q6, q7, q8, q9, q10, q11⟩ := hw.1 x hx
      exact ⟨⟨wf_in q1, by omega, fun z hz => wf_in (q2 z hz)⟩, ⟨wf_in q3, wf_in q7, wf_in q8, by omega, fun u hu' => hu _ u hu' (q4 u hu') (by omega), ⟨wf_in q5, by omega, fun z hz => wf_in (q6 z hz)⟩⟩, ⟨wf_in q9, ⟨wf_in q10, by omega, fun z hz => wf_in (q11 z hz)⟩⟩⟩
    · obtain ⟨_, _, _, q1, q2, q3, q4, q5, q6, q7, q8, q9, q10, q11, q12⟩ := hw
      exact ⟨⟨wf_in q1, by omega, fun z hz => wf_in (q2 z hz)⟩, wf_in q5, ⟨wf_in q9, ⟨wf_in q10, by omega, fun z hz => wf_in (q11 z hz)⟩⟩, by omega, fun z hz => wf_in (q12 z hz)⟩

theorem l13_true (x : BlockD) : ∀ (l : List Int) (j : Nat), x.end_.to_.drop j = l → lMirTexts_l13 x l j = .go ()
  | [], _, _ => rfl
  | y :: l, j, h => by
    have hj : j < x.end_.to_.length := by
      rcases Nat.lt_or_ge j x.end_.to_.length with h' | h'
      · exact h'
      · rw [List.drop_eq_nil_of_le h'] at h; cases h
    rw [List.drop_eq_getElem_cons hj] at h
    injection h with h1 h2
    have h3 : x.end_.to_.getD j default = y := by rw [List.getD_eq_getElem?_getD, List.getElem?_eq_getElem hj]; exact h1
    simp only [lMirTexts_l13, bnd, h3]
    simp [l13_true x l (j + 1) h2]
theorem l7_true : ∀ l : List BlockD, lMirTexts_l7 l = .go ()
  | [] => rfl
  | x :: l => by
    simp only [lMirTexts_l7, mSucc]
    simp [l13_true x x.end_.to_ 0 rfl, Ctl.bind, l7_true l]
theorem lMirTexts_true (b : BodyD) : lMirTexts b = true := by
  unfold lMirTexts
  rw [l7_true]
  simp [Ctl.run]
end Go.Proofs.Tryd
end
section
namespace Go.Proofs.Tryd
open Go Go.AM
attribute [local simp] wpG_op wpG_nil contG_some wpG_guard guardG_v guardG_o guardG_tup gval pureOp stepG_if isPick pickG_pick pickB_b pickOK isCall step_move step_assign step_alloc step_box boxV_some step_load step_store step_binOp step_unOp step_fieldAddr faV step_indexAddr ixA_slc ixA_arr step_extract extV_tup step_nilCheck ncV_ptr ncV_rp ncV_fn ncV_mp step_build buildV step_buildSlice bsV step_index ixV_arr ixV_str step_append apB step_makeSlice msV_i step_makeFunc over step_len step_makeMap mmV step_mapUpdate step_insert muA_map muB_mp step_lookup lkA_map lkB_mp step_slice slcV_s slcV_sl slcV_ro cutB_some slObV_arr bound_none bound_some bndV_i lenB_str lenB_ro lenB_sl lenB_nil lenB_z ld_ptr ld_rp offV_ptr offV_rp idxV_ro idxV_sl unV_not unV_neg binV_int binV_str binV_eqlb binV_neqb intOp strOp St.put updL setOb St.ev toV St.lk cellsOf AM.valOf TK.agg stv fillV places TI.zero condT_true condT_false finS resL resSlot packV ren ren1 ren0 Value.cells builtinV appendV elemsOf keepT room_of wrap_in toIdx passed Function.comp_def take_len_map lenV touchOf hid tab1 tab2 tab3 tab4 tab5 tab6 tab7 tab8 tab9 tab10 tab11 tab12 tab15 tab16 tab17 tab18 tab19 tab20 tab21 tab22 tab23 tab24 tab25 tab26 tab27 tab28 tab29 tab30 tab31 tab32 tab33 tab34 tab35 tab36 tab37 tab38 tab39 tab40 tab41 tab42 tab43 tab44 tab45 tab46 tab47 tab48 tab49 tab50 tab51 tab52 tab53 tab54 tab55 tab57 tab58 tab59 tab61 tab62 tab63 tab64 tab65 tab66 tab67 tab68 tab69 tab70 tab71 tab72 tab73 tab74 tab75 tab76 tab77 tab78 tab79 tab80 tab81 tab82 tab83 tab84 tab85 tab86 tab87 tab88 tab89 tab90 tab91 tab92 tab93 tab94 tab95 tab96 tab97 tab98 tab99 tab100 tab101 tab103 tab104 tab105 tab106 tab107 tab108 tab109 tab110 tab111 tab112 tab113 tab114 tab115 tab116 tab117 tab118 tab119 tab120 tab121 tab122 tab123 tab124 tab125 tab126 tab127 tab128 tab129 tab130 tab131 tab132 tab133 tab135 tab137 tab138 tab140 tab141 tab142 tab143 tab144 tab145 tab146 tab147 tab148 tab149 tab150 tab151 tab152 tab153 tab155 tab156 tab157 tab158 tab159 tab160 tab161 tab162 tab163 tab164 tab165 tab166 tab167 tab168 tab170 tab171 tab172 tab173 tab174 tab175 tab176 tab177 tab178 tab179 tab180 tab181 tab182 tab186 tab187 tab188 tab189 tab190 tab191 tab192 tab193 tab194 tab195 armC_eq blockC_eq bodyC_eq enumC_eq fieldC_eq fnC_eq inC_eq localC_eq mirBodyC_eq operC_eq placeC_eq rvC_eq sourceC_eq spotC_eq stepC_eq stmtC_eq structC_eq tmC_eq tyC_eq useC_eq valueC_eq variantC_eq cutL_nil cutL_junk cutL_cons ren_arr ren_gone ren_unborn ren_var ren_row step_convert cvV_i cvV_sl cvV_s cvK_slc cvE_u8 bytesOf bor1 bor2 bor3 bor4
set_option linter.unusedSimpArgs false
set_option linter.unusedVariables false
set_option maxRecDepth 10000
set_option maxHeartbeats 4000000
noncomputable section
set_option linter.unusedVariables false
theorem rd_TyD (k : Nat) (xs : List V) (h : shpW tab k 54 xs) : ∃ x : TyD, xs = tyC x ∧ True := by
  obtain ⟨yss, h1, h2, k', hk, h3⟩ := shpW_fields h (show (tab 54).kind = .str [(0, 51), (1, 9), (2, 52)] from rfl)
  match yss, h2 with
  | [y0, y1, y2], _ =>
    obtain ⟨a0, rfl, b0⟩ := shpW_int (h3 0 _ _ rfl rfl) (show (tab 51).kind = .int .i64 from rfl)
    obtain ⟨a1, rfl, b1⟩ := shpW_str (h3 1 _ _ rfl rfl) (show (tab 9).kind = .string from rfl)
    obtain ⟨a2, rfl, b2, c2⟩ := shpW_slc tyC (fun x => True) (h3 2 _ _ rfl rfl) (show (tab 52).kind = .slc 54 from rfl) (fun k _ l hl => rd_TyD k l hl)
    exact ⟨⟨a0, a1, a2⟩, by rw [h1]; simp [tyC_eq], trivial⟩
termination_by k
decreasing_by all_goals omega

theorem rd_FieldD (k : Nat) (xs : List V) (h : shpW tab k 112 xs) : ∃ x : FieldD, xs = fieldC x ∧ True := by
  obtain ⟨yss, h1, h2, k', hk, h3⟩ := shpW_fields h (show (tab 112).kind = .str [(0, 9), (1, 54)] from rfl)
  match yss, h2 with
  | [y0, y1], _ =>
    obtain ⟨a0, rfl, b0⟩ := shpW_str (h3 0 _ _ rfl rfl) (show (tab 9).kind = .string from rfl)
    obtain ⟨a1, rfl, b1⟩ := rd_TyD _ _ (h3 1 _ _ rfl rfl)
    exact ⟨⟨a0, a1⟩, by rw [h1]; simp [fieldC_eq], trivial⟩

theorem rd_StructD (k : Nat) (xs : List V) (h : shpW tab k 72 xs) : ∃ x : StructD, xs = structC x ∧ x.fields.length ≤ 2199023255551 := by
  obtain ⟨yss, h1, h2, k', hk, h3⟩ := shpW_fields h (show (tab 72).kind = .str [(0, 9), (1, 4), (2, 70), (3, 3)] from rfl)
  match yss, h2 with
  | [y0, y1, y2, y3], _ =>
    obtain ⟨a0, rfl, b0⟩ := shpW_str (h3 0 _ _ rfl rfl) (show (tab 9).kind = .string from rfl)
    obtain ⟨a1, rfl⟩ := shpW_bool (h3 1 _ _ rfl rfl) (show (tab 4).kind = .bool from rfl)
    obtain ⟨a2, rfl, b2, c2⟩ := shpW_slc fieldC (fun x => True) (h3 2 _ _ rfl rfl) (show (tab 70).kind = .slc 112 from rfl) (fun k _ l hl => rd_FieldD k l hl)
    obtain ⟨a3, rfl, b3⟩ := shpW_int (h3 3 _ _ rfl rfl) (show (tab 3).kind = .int .i64 from rfl)
    exact ⟨⟨a0, a1, a2, a3⟩, by rw [h1]; simp [structC_eq], (show a2.length ≤ 2199023255551 by have := c2; rw [show (tab 112).bytes = 64 from rfl] at this; unfold reachBytes at this; omega)⟩

theorem rd_VariantD (k : Nat) (xs : List V) (h : shpW tab k 77 xs) : ∃ x : VariantD, xs = variantC x ∧ True := by
  obtain ⟨yss, h1, h2, k', hk, h3⟩ := shpW_fields h (show (tab 77).kind = .str [(0, 9), (1, 54)] from rfl)
  match yss, h2 with
  | [y0, y1], _ =>
    obtain ⟨a0, rfl, b0⟩ := shpW_str (h3 0 _ _ rfl rfl) (show (tab 9).kind = .string from rfl)
    obtain ⟨a1, rfl, b1⟩ := rd_TyD _ _ (h3 1 _ _ rfl rfl)
    exact ⟨⟨a0, a1⟩, by rw [h1]; simp [variantC_eq], trivial⟩

theorem rd_EnumD (k : Nat) (xs : List V) (h : shpW tab k 75 xs) : ∃ x : EnumD, xs = enumC x ∧ True := by
  obtain ⟨yss, h1, h2, k', hk, h3⟩ := shpW_fields h (show (tab 75).kind = .str [(0, 9), (1, 73), (2, 3)] from rfl)
  match yss, h2 with
  | [y0, y1, y2], _ =>
    obtain ⟨a0, rfl, b0⟩ := shpW_str (h3 0 _ _ rfl rfl) (show (tab 9).kind = .string from rfl)
    obtain ⟨a1, rfl, b1, c1⟩ := shpW_slc variantC (fun x => True) (h3 1 _ _ rfl rfl) (show (tab 73).kind = .slc 77 from rfl) (fun k _ l hl => rd_VariantD k l hl)
    obtain ⟨a2, rfl, b2⟩ := shpW_int (h3 2 _ _ rfl rfl) (show (tab 3).kind = .int .i64 from rfl)
    exact ⟨⟨a0, a1, a2⟩, by rw [h1]; simp [enumC_eq], trivial⟩

theorem rd_StepD (k : Nat) (xs : List V) (h : shpW tab k 195 xs) : ∃ x : StepD, xs = stepC x ∧ True := by
  obtain ⟨yss, h1, h2, k', hk, h3⟩ := shpW_fields h (show (tab 195).kind = .str [(0, 9)] from rfl)
  match yss, h2 with
  | [y0], _ =>
    obtain ⟨a0, rfl, b0⟩ := shpW_str (h3 0 _ _ rfl rfl) (show (tab 9).kind = .string from rfl)
    exact ⟨⟨a0⟩, by rw [h1]; simp [stepC_eq], trivial⟩

theorem rd_PlaceD (k : Nat) (xs : List V) (h : shpW tab k 116 xs) : ∃ x : PlaceD, xs = placeC x ∧ True := by
  obtain ⟨yss, h1, h2, k', hk, h3⟩ := shpW_fields h (show (tab 116).kind = .str [(0, 9), (1, 114)] from rfl)
  match yss, h2 with
  | [y0, y1], _ =>
    obtain ⟨a0, rfl, b0⟩ := shpW_str (h3 0 _ _ rfl rfl) (show (tab 9).kind = .string from rfl)
    obtain ⟨a1, rfl, b1, c1⟩ := shpW_slc stepC (fun x => True) (h3 1 _ _ rfl rfl) (show (tab 114).kind = .slc 195 from rfl) (fun k _ l hl => rd_StepD k l hl)
    exact ⟨⟨a0, a1⟩, by rw [h1]; simp [placeC_eq], trivial⟩

theorem rd_OperD (k : Nat) (xs : List V) (h : shpW tab k 121 xs) : ∃ x : OperD, xs = operC x ∧ True := by
  obtain ⟨yss, h1, h2, k', hk, h3⟩ := shpW_fields h (show (tab 121).kind = .str [(0, 4), (1, 3), (2, 116)] from rfl)
  match yss, h2 with
  | [y0, y1, y2], _ =>
    obtain ⟨a0, rfl⟩ := shpW_bool (h3 0 _ _ rfl rfl) (show (tab 4).kind = .bool from rfl)
    obtain ⟨a1, rfl, b1⟩ := shpW_int (h3 1 _ _ rfl rfl) (show (tab 3).kind = .int .i64 from rfl)
    obtain ⟨a2, rfl, b2⟩ := rd_PlaceD _ _ (h3 2 _ _ rfl rfl)
    exact ⟨⟨a0, a1, a2⟩, by rw [h1]; simp [operC_eq], trivial⟩

theorem rd_RvD (k : Nat) (xs : List V) (h : shpW tab k 119 xs) : ∃ x : RvD, xs = rvC x ∧ True := by
  obtain ⟨yss, h1, h2, k', hk, h3⟩ := shpW_fields h (show (tab 119).kind = .str [(0, 41), (1, 117), (2, 116), (4, 9), (5, 9)] from rfl)
  match yss, h2 with
  | [y0, y1, y2, y3, y4], _ =>
    obtain ⟨a0, rfl, b0⟩ := shpW_int (h3 0 _ _ rfl rfl) (show (tab 41).kind = .int .i64 from rfl)
    obtain ⟨a1, rfl, b1, c1⟩ := shpW_slc operC (fun x => True) (h3 1 _ _ rfl rfl) (show (tab 117).kind = .slc 121 from rfl) (fun k _ l hl => rd_OperD k l hl)
    obtain ⟨a2, rfl, b2⟩ := rd_PlaceD _ _ (h3 2 _ _ rfl rfl)
    obtain ⟨a3, rfl, b3⟩ := shpW_str (h3 3 _ _ rfl rfl) (show (tab 9).kind = .string from rfl)
    obtain ⟨a4, rfl, b4⟩ := shpW_str (h3 4 _ _ rfl rfl) (show (tab 9).kind = .string from rfl)
    exact ⟨⟨a0, a1, a2, a3, a4⟩, by rw [h1]; simp [rvC_eq], trivial⟩

mutual
theorem rd_ArmD (k : Nat) (xs : List V) (h : shpW tab k 126 xs) : ∃ x : ArmD, xs = armC x ∧ True := by
  obtain ⟨yss, h1, h2, k', hk, h3⟩ := shpW_fields h (show (tab 126).kind = .str [(0, 9), (1, 9), (2, 78)] from rfl)
  match yss, h2 with
  | [y0, y1, y2], _ =>
    obtain ⟨a0, rfl, b0⟩ := shpW_str (h3 0 _ _ rfl rfl) (show (tab 9).kind = .string from rfl)
    obtain ⟨a1, rfl, b1⟩ := shpW_str (h3 1 _ _ rfl rfl) (show (tab 9).kind = .string from rfl)
    obtain ⟨a2, rfl, b2, c2⟩ := shpW_slc stmtC (fun x => True) (h3 2 _ _ rfl rfl) (show (tab 78).kind = .slc 124 from rfl) (fun k _ l hl => rd_StmtD k l hl)
    exact ⟨⟨a0, a1, a2⟩, by rw [h1]; simp [armC_eq], trivial⟩
termination_by k
decreasing_by all_goals omega

theorem rd_StmtD (k : Nat) (xs : List V) (h : shpW tab k 124 xs) : ∃ x : StmtD, xs = stmtC x ∧ True := by
  obtain ⟨yss, h1, h2, k', hk, h3⟩ := shpW_fields h (show (tab 124).kind = .str [(0, 113), (1, 3), (2, 9), (3, 54), (6, 116), (8, 119), (14, 121), (18, 78), (19, 78), (20, 122)] from rfl)
  match yss, h2 with
  | [y0, y1, y2, y3, y4, y5, y6, y7, y8, y9], _ =>
    obtain ⟨a0, rfl, b0⟩ := shpW_int (h3 0 _ _ rfl rfl) (show (tab 113).kind = .int .i64 from rfl)
    obtain ⟨a1, rfl, b1⟩ := shpW_int (h3 1 _ _ rfl rfl) (show (tab 3).kind = .int .i64 from rfl)
    obtain ⟨a2, rfl, b2⟩ := shpW_str (h3 2 _ _ rfl rfl) (show (tab 9).kind = .string from rfl)
    obtain ⟨a3, rfl, b3⟩ := rd_TyD _ _ (h3 3 _ _ rfl rfl)
    obtain ⟨a4, rfl, b4⟩ := rd_PlaceD _ _ (h3 4 _ _ rfl rfl)
    obtain ⟨a5, rfl, b5⟩ := rd_RvD _ _ (h3 5 _ _ rfl rfl)
    obtain ⟨a6, rfl, b6⟩ := rd_OperD _ _ (h3 6 _ _ rfl rfl)
    obtain ⟨a7, rfl, b7, c7⟩ := shpW_slc stmtC (fun x => True) (h3 7 _ _ rfl rfl) (show (tab 78).kind = .slc 124 from rfl) (fun k _ l hl => rd_StmtD k l hl)
    obtain ⟨a8, rfl, b8, c8⟩ := shpW_slc stmtC (fun x => True) (h3 8 _ _ rfl rfl) (show (tab 78).kind = .slc 124 from rfl) (fun k _ l hl => rd_StmtD k l hl)
    obtain ⟨a9, rfl, b9, c9⟩ := shpW_slc armC (fun x => True) (h3 9 _ _ rfl rfl) (show (tab 122).kind = .slc 126 from rfl) (fun k _ l hl => rd_ArmD k l hl)
    exact ⟨⟨a0, a1, a2, a3, a4, a5, a6, a7, a8, a9⟩, by rw [h1]; simp [stmtC_eq], trivial⟩
termination_by k
decreasing_by all_goals omega
end

theorem rd_FnD (k : Nat) (xs : List V) (h : shpW tab k 80 xs) : ∃ x : FnD, xs = fnC x ∧ x.params.length ≤ 2199023255551 := by
  obtain ⟨yss, h1, h2, k', hk, h3⟩ := shpW_fields h (show (tab 80).kind = .str [(0, 9), (1, 70), (2, 78), (3, 3)] from rfl)
  match yss, h2 with
  | [y0, y1, y2, y3], _ =>
    obtain ⟨a0, rfl, b0⟩ := shpW_str (h3 0 _ _ rfl rfl) (show (tab 9).kind = .string from rfl)
    obtain ⟨a1, rfl, b1, c1⟩ := shpW_slc fieldC (fun x => True) (h3 1 _ _ rfl rfl) (show (tab 70).kind = .slc 112 from rfl) (fun k _ l hl => rd_FieldD k l hl)
    obtain ⟨a2, rfl, b2, c2⟩ := shpW_slc stmtC (fun x => True) (h3 2 _ _ rfl rfl) (show (tab 78).kind = .slc 124 from rfl) (fun k _ l hl => rd_StmtD k l hl)
    obtain ⟨a3, rfl, b3⟩ := shpW_int (h3 3 _ _ rfl rfl) (show (tab 3).kind = .int .i64 from rfl)
    exact ⟨⟨a0, a1, a2, a3⟩, by rw [h1]; simp [fnC_eq], (show a1.length ≤ 2199023255551 by have := c1; rw [show (tab 112).bytes = 64 from rfl] at this; unfold reachBytes at this; omega)⟩

theorem rd_SourceD (k : Nat) (xs : List V) (h : shpW tab k 26 xs) : ∃ x : SourceD, xs = sourceC x ∧ SrcOK x := by
  obtain ⟨yss, h1, h2, k', hk, h3⟩ := shpW_fields h (show (tab 26).kind = .str [(0, 22), (1, 23), (2, 24)] from rfl)
  match yss, h2 with
  | [y0, y1, y2], _ =>
    obtain ⟨a0, rfl, b0, c0⟩ := shpW_slc structC (fun x => x.fields.length ≤ 2199023255551) (h3 0 _ _ rfl rfl) (show (tab 22).kind = .slc 72 from rfl) (fun k _ l hl => rd_StructD k l hl)
    obtain ⟨a1, rfl, b1, c1⟩ := shpW_slc enumC (fun x => True) (h3 1 _ _ rfl rfl) (show (tab 23).kind = .slc 75 from rfl) (fun k _ l hl => rd_EnumD k l hl)
    obtain ⟨a2, rfl, b2, c2⟩ := shpW_slc fnC (fun x => x.params.length ≤ 2199023255551) (h3 2 _ _ rfl rfl) (show (tab 24).kind = .slc 80 from rfl) (fun k _ l hl => rd_FnD k l hl)
    exact ⟨⟨a0, a1, a2⟩, by rw [h1]; simp [sourceC_eq], ⟨b0, b2⟩⟩

theorem rd_LocalD (k : Nat) (xs : List V) (h : shpW tab k 68 xs) : ∃ x : LocalD, xs = localC x ∧ True := by
  obtain ⟨yss, h1, h2, k', hk, h3⟩ := shpW_fields h (show (tab 68).kind = .str [(0, 9), (1, 54)] from rfl)
  match yss, h2 with
  | [y0, y1], _ =>
    obtain ⟨a0, rfl, b0⟩ := shpW_str (h3 0 _ _ rfl rfl) (show (tab 9).kind = .string from rfl)
    obtain ⟨a1, rfl, b1⟩ := rd_TyD _ _ (h3 1 _ _ rfl rfl)
    exact ⟨⟨a0, a1⟩, by rw [h1]; simp [localC_eq], trivial⟩

theorem rd_SpotD (k : Nat) (xs : List V) (h : shpW tab k 38 xs) : ∃ x : SpotD, xs = spotC x ∧ True := by
  obtain ⟨yss, h1, h2, k', hk, h3⟩ := shpW_fields h (show (tab 38).kind = .str [(0, 3), (1, 36)] from rfl)
  match yss, h2 with
  | [y0, y1], _ =>
    obtain ⟨a0, rfl, b0⟩ := shpW_int (h3 0 _ _ rfl rfl) (show (tab 3).kind = .int .i64 from rfl)
    obtain ⟨a1, rfl, b1, c1⟩ := shpW_slc (fun z : Int => [V.i .i64 z]) (fun _ => True) (h3 1 _ _ rfl rfl) (show (tab 36).kind = .slc 3 from rfl) (fun k _ l hl => by obtain ⟨m, h, _⟩ := shpW_int hl (show (tab 3).kind = .int .i64 from rfl); exact ⟨m, h, trivial⟩)
    exact ⟨⟨a0, a1⟩, by rw [h1]; simp [spotC_eq], trivial⟩

theorem rd_UseD (k : Nat) (xs : List V) (h : shpW tab k 40 xs) : ∃ x : UseD, xs = useC x ∧ True := by
  obtain ⟨yss, h1, h2, k', hk, h3⟩ := shpW_fields h (show (tab 40).kind = .str [(0, 4), (1, 3), (2, 4), (3, 38)] from rfl)
  match yss, h2 with
  | [y0, y1, y2, y3], _ =>
    obtain ⟨a0, rfl⟩ := shpW_bool (h3 0 _ _ rfl rfl) (show (tab 4).kind = .bool from rfl)
    obtain ⟨a1, rfl, b1⟩ := shpW_int (h3 1 _ _ rfl rfl) (show (tab 3).kind = .int .i64 from rfl)
    obtain ⟨a2, rfl⟩ := shpW_bool (h3 2 _ _ rfl rfl) (show (tab 4).kind = .bool from rfl)
    obtain ⟨a3, rfl, b3⟩ := rd_SpotD _ _ (h3 3 _ _ rfl rfl)
    exact ⟨⟨a0, a1, a2, a3⟩, by rw [h1]; simp [useC_eq], trivial⟩

theorem rd_ValueD (k : Nat) (xs : List V) (h : shpW tab k 44 xs) : ∃ x : ValueD, xs = valueC x ∧ True := by
  obtain ⟨yss, h1, h2, k', hk, h3⟩ := shpW_fields h (show (tab 44).kind = .str [(0, 41), (1, 42), (2, 38), (4, 3), (5, 3)] from rfl)
  match yss, h2 with
  | [y0, y1, y2, y3, y4], _ =>
    obtain ⟨a0, rfl, b0⟩ := shpW_int (h3 0 _ _ rfl rfl) (show (tab 41).kind = .int .i64 from rfl)
    obtain ⟨a1, rfl, b1, c1⟩ := shpW_slc useC (fun x => True) (h3 1 _ _ rfl rfl) (show (tab 42).kind = .slc 40 from rfl) (fun k _ l hl => rd_UseD k l hl)
    obtain ⟨a2, rfl, b2⟩ := rd_SpotD _ _ (h3 2 _ _ rfl rfl)
    obtain ⟨a3, rfl, b3⟩ := shpW_int (h3 3 _ _ rfl rfl) (show (tab 3).kind = .int .i64 from rfl)
    obtain ⟨a4, rfl, b4⟩ := shpW_int (h3 4 _ _ rfl rfl) (show (tab 3).kind = .int .i64 from rfl)
    exact ⟨⟨a0, a1, a2, a3, a4⟩, by rw [h1]; simp [valueC_eq], trivial⟩

theorem rd_InD (k : Nat) (xs : List V) (h : shpW tab k 85 xs) : ∃ x : InD, xs = inC x ∧ True := by
  obtain ⟨yss, h1, h2, k', hk, h3⟩ := shpW_fields h (show (tab 85).kind = .str [(0, 83), (1, 3), (2, 38), (4, 44), (10, 40)] from rfl)
  match yss, h2 with
  | [y0, y1, y2, y3, y4], _ =>
    obtain ⟨a0, rfl, b0⟩ := shpW_int (h3 0 _ _ rfl rfl) (show (tab 83).kind = .int .i64 from rfl)
    obtain ⟨a1, rfl, b1⟩ := shpW_int (h3 1 _ _ rfl rfl) (show (tab 3).kind = .int .i64 from rfl)
    obtain ⟨a2, rfl, b2⟩ := rd_SpotD _ _ (h3 2 _ _ rfl rfl)
    obtain ⟨a3, rfl, b3⟩ := rd_ValueD _ _ (h3 3 _ _ rfl rfl)
    obtain ⟨a4, rfl, b4⟩ := rd_UseD _ _ (h3 4 _ _ rfl rfl)
    exact ⟨⟨a0, a1, a2, a3, a4⟩, by rw [h1]; simp [inC_eq], trivial⟩

theorem rd_TmD (k : Nat) (xs : List V) (h : shpW tab k 46 xs) : ∃ x : TmD, xs = tmC x ∧ True := by
  obtain ⟨yss, h1, h2, k', hk, h3⟩ := shpW_fields h (show (tab 46).kind = .str [(0, 35), (1, 3), (2, 38), (4, 44), (10, 40), (15, 36)] from rfl)
  match yss, h2 with
  | [y0, y1, y2, y3, y4, y5], _ =>
    obtain ⟨a0, rfl, b0⟩ := shpW_int (h3 0 _ _ rfl rfl) (show (tab 35).kind = .int .i64 from rfl)
    obtain ⟨a1, rfl, b1⟩ := shpW_int (h3 1 _ _ rfl rfl) (show (tab 3).kind = .int .i64 from rfl)
    obtain ⟨a2, rfl, b2⟩ := rd_SpotD _ _ (h3 2 _ _ rfl rfl)
    obtain ⟨a3, rfl, b3⟩ := rd_ValueD _ _ (h3 3 _ _ rfl rfl)
    obtain ⟨a4, rfl, b4⟩ := rd_UseD _ _ (h3 4 _ _ rfl rfl)
    obtain ⟨a5, rfl, b5, c5⟩ := shpW_slc (fun z : Int => [V.i .i64 z]) (fun _ => True) (h3 5 _ _ rfl rfl) (show (tab 36).kind = .slc 3 from rfl) (fun k _ l hl => by obtain ⟨m, h, _⟩ := shpW_int hl (show (tab 3).kind = .int .i64 from rfl); exact ⟨m, h, trivial⟩)
    exact ⟨⟨a0, a1, a2, a3, a4, a5⟩, by rw [h1]; simp [tmC_eq], trivial⟩

theorem rd_BlockD (k : Nat) (xs : List V) (h : shpW tab k 49 xs) : ∃ x : BlockD, xs = blockC x ∧ x.ins.length ≤ 764877654082 := by
  obtain ⟨yss, h1, h2, k', hk, h3⟩ := shpW_fields h (show (tab 49).kind = .str [(0, 47), (1, 46)] from rfl)
  match yss, h2 with
  | [y0, y1], _ =>
    obtain ⟨a0, rfl, b0, c0⟩ := shpW_slc inC (fun x => True) (h3 0 _ _ rfl rfl) (show (tab 47).kind = .slc 85 from rfl) (fun k _ l hl => rd_InD k l hl)
    obtain ⟨a1, rfl, b1⟩ := rd_TmD _ _ (h3 1 _ _ rfl rfl)
    exact ⟨⟨a0, a1⟩, by rw [h1]; simp [blockC_eq], (show a0.length ≤ 764877654082 by have := c0; rw [show (tab 85).bytes = 184 from rfl] at this; unfold reachBytes at this; omega)⟩

theorem rd_BodyD (k : Nat) (xs : List V) (h : shpW tab k 30 xs) : ∃ x : BodyD, xs = bodyC x ∧ x.blocks.length ≤ 606627104962 ∧ ∀ y ∈ x.blocks, y.ins.length ≤ 764877654082 := by
  obtain ⟨yss, h1, h2, k', hk, h3⟩ := shpW_fields h (show (tab 30).kind = .str [(0, 9), (1, 3), (2, 27), (3, 28)] from rfl)
  match yss, h2 with
  | [y0, y1, y2, y3], _ =>
    obtain ⟨a0, rfl, b0⟩ := shpW_str (h3 0 _ _ rfl rfl) (show (tab 9).kind = .string from rfl)
    obtain ⟨a1, rfl, b1⟩ := shpW_int (h3 1 _ _ rfl rfl) (show (tab 3).kind = .int .i64 from rfl)
    obtain ⟨a2, rfl, b2, c2⟩ := shpW_slc localC (fun x => True) (h3 2 _ _ rfl rfl) (show (tab 27).kind = .slc 68 from rfl) (fun k _ l hl => rd_LocalD k l hl)
    obtain ⟨a3, rfl, b3, c3⟩ := shpW_slc blockC (fun x => x.ins.length ≤ 764877654082) (h3 3 _ _ rfl rfl) (show (tab 28).kind = .slc 49 from rfl) (fun k _ l hl => rd_BlockD k l hl)
    exact ⟨⟨a0, a1, a2, a3⟩, by rw [h1]; simp [bodyC_eq], ⟨(show a3.length ≤ 606627104962 by have := c3; rw [show (tab 49).bytes = 232 from rfl] at this; unfold reachBytes at this; omega), b3⟩⟩
end
end Go.Proofs.Tryd
end
section
namespace Go.Proofs.YtakfpmogpnoibaaDoor
open Go.ChangeShapes Go.WideShapes Go.ChangeAt Go.RowKit Go.AM Go.Proofs.Tryd

theorem ownKnobNone : ownKnob Tryd.prog.godebug = none := by kernel_rfl
theorem laidOutAll : laidOutB Tryd.prog = true := by kernel_rfl
def readT : List TypeId := [3, 4, 9, 27, 28, 30, 35, 36, 38, 40, 41, 42, 44, 46, 47, 49, 51, 52, 54, 68, 83, 85]
theorem readT_closed : closedS tab readT = true := by decide +kernel

theorem gokOf {W : World} {L : List (String × DataW Unit)} (hL : L.drop 2 = [("internal/strconv.uint64pow10", Lib.tabData .u64 Lib.pow10Tab)])
    (hp : (L.all fun x => x.2.handleName?.isNone) = true) (h : laidMetH Tryd.prog L W) : GOK Tryd.prog W (fun _ => False) := by
  rw [MakeChecks.laidMetH_plain _ _ _ hp] at h
  obtain ⟨a, b, rfl⟩ : ∃ a b, L = [a, b, ("internal/strconv.uint64pow10", Lib.tabData .u64 Lib.pow10Tab)] := by
    match L, hL with
    | a :: b :: r, hL => exact ⟨a, b, by rw [show r = _ from hL]⟩
  have h1 := Lib.tabIs_of_head (g := 1) (t := 173) (e := 166) (n := 20) (by kernel_rfl) (by kernel_rfl) (by kernel_rfl) (by kernel_rfl) (by kernel_rfl) (by kernel_rfl) (laidMet.tail (laidMet.tail h))
  intro e he
  obtain rfl := List.mem_singleton.1 he
  refine ⟨h1, fun g hg => ⟨?_, not_false⟩⟩
  unfold Lib.TabIs World.var? at h1
  rw [hg] at h1
  simp only [Option.bind_some] at h1
  rcases Nat.lt_or_ge g W.heap.size with h' | h'
  · exact h'
  · rw [Array.getElem?_eq_none h'] at h1; cases h1
end Go.Proofs.YtakfpmogpnoibaaDoor
end
section
namespace Go.Proofs.YtakfpmogpnoibaaDoor
open Go.ChangeShapes Go.WideShapes Go.ChangeAt Go.RowKit Go.AM Go.Proofs.Tryd

theorem bulk_all {H : Type} : ∀ ds : List (DataW H), Rows.uptoBulkAll ds = (ds.map Rows.uptoBulk).sum
  | [] => rfl
  | d :: ds => by simp only [Rows.uptoBulkAll, List.map_cons, List.sum_cons, bulk_all ds]
theorem bulk_pos {H : Type} : ∀ d : DataW H, 1 ≤ Rows.uptoBulk d
  | .lit l => by cases l <;> simp [Rows.uptoBulk]
  | .nil => by simp [Rows.uptoBulk]
  | .ptr _ => by simp [Rows.uptoBulk]
  | .slice _ _ => by simp [Rows.uptoBulk]
  | .agg _ => by simp [Rows.uptoBulk]
  | .iface _ _ => by simp [Rows.uptoBulk]
  | .map _ => by simp [Rows.uptoBulk]
  | .held _ => by simp [Rows.uptoBulk]

set_option maxRecDepth 100000 in
theorem mirTextsLifted (HQ : ∀ (xs0 : List V) (n0 : Nat), shpW tab n0 30 xs0 → bkL xs0 ≤ 1048576 → QC Tryd.prog 6 [.agg xs0] [] (.b true) []) (os : Os) (started : os.Started) (H : Type) (enc : TypeId × Value → H) (F0 : Stop.Interp) :
    ReturnsInHanded {} Tryd.checked os 6 .any (OpenSpec.preRow enc Tryd.prog Tryd.f6 (Rows.OpenSpec.upto Rows.mirTextsSpec) Rows.mirTextsUptoRow.domain false Rows.mirTextsUptoRow.laid)
      (((Rows.OpenSpec.upto Rows.mirTextsSpec).at F0).post enc Tryd.prog Tryd.f6 false true false false) := by
  refine returnsInHanded_of_cond_and (C := Tryd.checked) (s := Rows.OpenSpec.upto Rows.mirTextsSpec) (k := Rows.uptoSmall) rfl ownKnobNone started (by kernel_rfl) Tryd.func6
    (witness_cond (enc := enc) (C := Tryd.checked) (os := os) (s := Rows.OpenSpec.upto Rows.mirTextsSpec) false (World.laidAll Tryd.prog os Rows.mirTextsUptoRow.laid) #[.agg #[.string ⟨#[]⟩, .int .i64 0, .slice none 0 0, .slice none 0 0]] 8 (World.laidAll_os _ _ _)
      (World.shaped_of_ZipB (by kernel_rfl) (by kernel_rfl)) (by kernel_rfl)
      (OpenSpec.preRow_of_cond 8 (x := ([.agg [.lit (.string []), .lit (.int .i64 0), .nil, .nil]], [], [])) (by kernel_rfl) (by kernel_rfl) (fun k hk => by cases hk; kernel_rfl) (by kernel_rfl) (by rw [MakeChecks.laidMetH_plain _ _ _ (by kernel_rfl)]; exact laidMet_laidAll _ (by kernel_rfl) (by kernel_rfl)))) ?_
  intro W base args ds gs before hval0 hW hk hwt hL
  have hval : ∀ (j : Nat) t v, Tryd.f6.params[j]? = some t → args[j]? = some v → Value.okWide Tryd.prog W .any base t v := hval0
  have hW' := hW
  obtain ⟨p, q, hA0, hV, rfl, _, _⟩ := hW
  have hA : DataW.TrodAll enc Tryd.prog W 0 (fun _ => true) true Tryd.f6.params.toList args.toList ds p := hA0
  rw [Tryd.params6] at hA hval
  have hw : ∀ x ∈ DataW.weightsEach Tryd.prog (Tryd.f6.params.toList ++ Rows.mirTextsSpec.plain.varTypes Tryd.prog) (ds ++ gs), x ≤ reachBytes := fun x hx => of_decide_eq_true (List.all_eq_true.1 hwt x hx)
  have hz := of_decide_eq_true hk
  obtain ⟨v0, d0, rfl, rfl, h0⟩ := trodAll_one hA
  obtain ⟨rfl, rfl⟩ := trodVars_none hV
  rw [Tryd.params6] at hw
  have hw0 : ∀ q ∈ d0.weights Tryd.prog 30, q ≤ reachBytes := fun q hq => hw q (DataW.weights_mem_each (j := 0) rfl rfl q hq)
  simp only [List.append_nil] at hW'
  have hlt : ∀ x ∈ p, x.block < W.heap.size := fun x hx => by simpa using hW'.lt x (by simpa using hx)
  simp only [List.append_nil, Rows.uptoBulkAll] at hz
  obtain ⟨xs0, ⟨n0, hs0⟩, hz0, hr0⟩ := arg_structB tabOK (T := tab) (t := 30) (S := readT) Rows.uptoBulk (fun s => by simp [Rows.uptoBulk]) bulk_pos (fun es sp => by simp only [Rows.uptoBulk, bulk_all]; omega) (fun ps => by simp only [Rows.uptoBulk, bulk_all]; omega) readT_closed rfl (by decide) (hval 0 30 v0 rfl rfl) h0 hw0
  refine ((HQ xs0 n0 hs0 (by omega)).truth (gokOf (L := Rows.mirTextsUptoRow.laid) (by kernel_rfl) (by kernel_rfl) hL) (vs := #[v0]) (W := W) rfl (fun ok hok D j x u hx hu => ?_)).mono fun e W' ⟨he, hb⟩ => ?_
  · match j with
    | 0 =>
      simp only [List.getElem?_cons_succ, List.getElem?_cons_zero, Option.some.injEq] at hx
      subst hx
      obtain rfl : v0 = u := by simpa using hu
      exact hr0 ok hok D
    | j + 1 => simp at hx
  · subst he
    refine ⟨_, rfl, _, _, _, [], p, [], by first | exact hW' | simpa using hW', ?_, ?_, ?_, hb.frame _, fun h => by cases h⟩
    · exact trodAll_mk1 (shut_bool Tryd.underlying4 true)
    · exact trodAll_mk1 (Below.trod laidOutAll (by kernel_rfl) (of_decide_eq_true (by kernel_rfl)) h0 hb hlt)
    · rfl

theorem mirTextsHolds (HQ : ∀ (xs0 : List V) (n0 : Nat), shpW tab n0 30 xs0 → bkL xs0 ≤ 1048576 → QC Tryd.prog 6 [.agg xs0] [] (.b true) []) : Rows.MirTextsUptoSaid :=
  OpenClaim.holds_of_cond 6 Tryd.f6 rfl rfl rfl rfl rfl rfl rfl ⟨rfl, rfl, rfl, rfl, rfl⟩ rfl rfl rfl rfl rfl (by kernel_rfl) Tryd.func6 (by kernel_rfl)
    (of_decide_eq_true (by kernel_rfl)) (by unfold Func.isWrapper; rw [if_neg (by decide +kernel)]; exact ⟨rfl, rfl⟩)
    (fun os started H enc _ F0 => by rw [OpenClaim.pre_eq_preRow]; exact mirTextsLifted HQ os started H enc F0)

theorem mirTextsCard (HQ : ∀ (xs0 : List V) (n0 : Nat), shpW tab n0 30 xs0 → bkL xs0 ≤ 1048576 → QC Tryd.prog 6 [.agg xs0] [] (.b true) []) : Rows.MirTextsUptoCardSaid :=
  Claim7.holds_tied_plain_at .later [] [.data, .data, .data] true (true, "72fb29bbc89c1b556461d9e75bc770fd806c7bd127c4eb9758c0bfee7dd84cc1") false (mirTextsHolds HQ) (fun _ h => by cases h) (by kernel_rfl) (fun _ h => by cases h) mirTextsUpto_row_tie rfl ⟨rfl, rfl⟩ (by kernel_rfl) rfl
    (fun f fn hf hfn => by
      obtain rfl : f = 6 := Option.some.inj ((show Tryd.prog.funcNamed "cocoon/cocoonlaw09.MirTexts" = some 6 by kernel_rfl).symm.trans hf) |>.symm
      obtain rfl : fn = Tryd.f6 := (Option.some.inj (Tryd.func6.symm.trans hfn)).symm
      exact ⟨by kernel_rfl, fun j t ht => by
        rw [Tryd.params6] at ht
        have hm : t ∈ [30] := by simpa using Array.mem_of_getElem? ht
        have hall : ([30].all fun u => !Tryd.prog.wantsStandIn u) = true := by kernel_rfl
        exact (show Tryd.prog.wantsStandIn t = false by simpa using List.all_eq_true.1 hall t hm)⟩)
    (by kernel_rfl)

theorem mirTexts_card : Rows.MirTextsUptoCardSaid := mirTextsCard fun xs0 n0 hs0 hz0 => by
  obtain ⟨b, rfl, _⟩ := rd_BodyD n0 xs0 hs0
  have h := w_lMirTexts b (bodyOK_of b (wfL_of n0 _ _ hs0) hz0)
  rw [lMirTexts_true] at h
  simpa [bodyC_eq] using h
end Go.Proofs.YtakfpmogpnoibaaDoor
end
