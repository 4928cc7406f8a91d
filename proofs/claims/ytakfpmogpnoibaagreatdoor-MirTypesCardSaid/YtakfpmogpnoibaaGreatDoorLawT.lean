/- The type of any spot, and of any value, or what is wrong, is just what the document says: MirTypes, tied. No conditions. -/
import Derived.Test.YtakfpmogpnoibaaGreatDoorTie
import Derived.Test.YtakfpmogpnoibaaGreatDoorCards
import Derived.ProofKit
import Derived.OpenShut
import Derived.LaidMore
import Derived.Lay
import Derived.SevenTiedAt
import Derived.Stop.Joined
import Derived.Stop.LaidErr
import Derived.Test.YtakfpmogpnoibaaGreatDoorRefB
import Derived.Test.YtakfpmogpnoibaaGreatDoorMirA
import Derived.Test.YtakfpmogpnoibaaGreatDoorSizA
import Derived.Test.YtakfpmogpnoibaaGreatDoorBldA
import Derived.Test.YtakfpmogpnoibaaGreatDoorRefA
import Derived.Test.YtakfpmogpnoibaaGreatDoorMachD
set_option linter.unusedVariables false
set_option linter.unusedSimpArgs false
set_option linter.constructorNameAsVariable false
section
namespace Go.Proofs.Tryz
open Go Go.AM
attribute [local simp] wpG_op wpG_nil contG_some wpG_guard guardG_v guardG_o guardG_tup gval pureOp stepG_if isPick pickG_pick pickB_b pickOK isCall step_move step_assign step_alloc step_box boxV_some step_load step_store step_binOp step_unOp step_fieldAddr faV step_indexAddr ixA_slc ixA_arr step_extract extV_tup step_nilCheck ncV_ptr ncV_rp ncV_fn ncV_mp step_build buildV step_buildSlice bsV step_index ixV_arr ixV_str step_append apB step_makeSlice msV_i step_makeFunc over step_len step_makeMap mmV step_mapUpdate step_insert muA_map muB_mp step_lookup lkA_map lkB_mp step_slice slcV_s slcV_sl slcV_ro cutB_some slObV_arr bound_none bound_some bndV_i lenB_str lenB_ro lenB_sl lenB_nil lenB_z ld_ptr ld_rp offV_ptr offV_rp idxV_ro idxV_sl unV_not unV_neg binV_int binV_str binV_eqlb binV_neqb intOp strOp St.put updL setOb St.ev toV St.lk cellsOf AM.valOf TK.agg stv fillV places TI.zero condT_true condT_false finS resL resSlot packV ren ren1 ren0 Value.cells builtinV appendV elemsOf keepT room_of wrap_in toIdx passed Function.comp_def take_len_map lenV touchOf hid tab1 tab2 tab3 tab4 tab5 tab6 tab7 tab8 tab9 tab10 tab11 tab12 tab13 tab14 tab15 tab16 tab17 tab18 tab19 tab20 tab21 tab22 tab23 tab24 tab25 tab26 tab27 tab28 tab29 tab30 tab31 tab32 tab33 tab34 tab35 tab36 tab37 tab38 tab39 tab40 tab41 tab42 tab43 tab44 tab45 tab46 tab47 tab48 tab49 tab50 tab51 tab52 tab53 tab54 tab55 tab56 tab57 tab58 tab59 tab60 tab61 tab62 tab63 tab64 tab65 tab66 tab67 tab68 tab69 tab70 tab71 tab73 tab74 tab76 tab77 tab78 tab79 tab80 tab81 tab82 tab83 tab84 tab85 tab86 tab87 tab88 tab89 tab90 tab91 tab92 tab93 tab94 tab95 tab96 tab97 tab98 tab99 tab100 tab101 tab102 tab103 tab104 tab105 tab106 tab107 tab108 tab109 tab110 tab111 tab112 tab113 tab114 tab115 tab116 tab117 tab118 tab119 tab120 tab121 tab122 tab123 tab124 tab125 tab126 tab127 tab128 tab129 tab130 tab131 tab132 tab133 tab134 tab135 tab136 tab137 tab138 tab139 tab140 tab141 tab142 tab143 tab144 tab145 tab146 tab147 tab148 tab149 tab150 tab151 tab152 tab153 tab154 tab155 tab156 tab157 tab158 tab159 tab160 tab161 tab162 tab163 tab164 tab165 tab166 tab167 tab168 tab169 tab170 tab171 tab172 tab173 tab174 tab175 tab176 tab177 tab178 tab179 tab180 tab181 tab182 tab184 tab185 tab186 tab187 tab188 tab189 tab190 tab191 tab192 tab193 tab194 tab195 tab196 tab197 tab199 tab200 tab201 tab202 tab203 tab205 tab206 tab208 tab209 tab210 tab211 tab212 tab213 tab214 tab215 tab216 tab217 tab218 tab219 tab220 tab221 tab222 tab223 tab224 tab225 tab227 tab228 tab229 tab230 tab231 tab232 tab233 tab234 tab235 tab236 tab237 tab238 tab239 tab240 tab241 tab243 tab244 tab246 tab247 tab249 tab250 tab251 tab252 tab253 tab254 tab255 tab257 tab258 tab259 tab260 tab261 tab262 tab263 tab264 tab265 tab266 tab267 tab268 tab272 tab273 tab274 tab275 tab276 tab277 tab278 armC_eq blockC_eq bodyC_eq enumC_eq fieldC_eq fnC_eq inC_eq localC_eq mirBodyC_eq operC_eq placeC_eq rvC_eq sourceC_eq spotC_eq stepC_eq stmtC_eq structC_eq tmC_eq tyC_eq useC_eq valueC_eq variantC_eq cutL_nil cutL_junk cutL_cons ren_arr ren_gone ren_unborn ren_var ren_row step_convert cvV_i cvV_sl cvV_s cvK_slc cvE_u8 bytesOf bor1 bor2 bor3 bor4
set_option linter.unusedSimpArgs false
set_option linter.unusedVariables false
set_option maxRecDepth 10000
set_option maxHeartbeats 4000000
noncomputable section
def lMirTypes_l8  : List UseD → Ctl (Bool) (Unit)
 | [] => .go ()
 | x8 :: xs8 => (if 20 < (x8.s.path.length : Int) then .ret true else lMirTypes_l8 xs8)
def lMirTypes (p0 : SourceD) (p1 : BodyD) (p2 : SpotD) (p3 : ValueD) : Bool :=
 (if (((((zLarge p0 250) = true) ∨ ((zOver p1 250) = true)) ∨ (20 < (p2.path.length : Int))) ∨ (20 < (p3.uses.length : Int))) ∨ (20 < (p3.s.path.length : Int)) then true else (Ctl.run (lMirTypes_l8 p3.uses) fun (v8 : Unit) => (((((rSameTy ((mType p0 p1 p2).1) ((rType p0 p1 p2).1)) && (rSameTy ((mValueF p0 p1 p3).1) ((rValue p0 p1 p3).1))) && ((mType p0 p1 p2).2.1 == (rType p0 p1 p2).2.1)) && (decide ((mType p0 p1 p2).2.2 = (rType p0 p1 p2).2.2))) && (decide ((mValueF p0 p1 p3).2 = (rValue p0 p1 p3).2)))))
set_option maxHeartbeats 40000000 in
theorem w_lMirTypes (p0 : SourceD) (p1 : BodyD) (p2 : SpotD) (p3 : ValueD) (hs : SrcOK p0) : QC prog 9 [.agg [.ro 4 (p0.structs.map structC), .ro 3 (p0.enums.map enumC), .ro 4 (p0.fns.map fnC)], .agg [.s p1.name, .i .i64 p1.params, .ro 4 (p1.locals.map localC), .ro 17 (p1.blocks.map blockC)], .agg [.i .i64 p2.local_, .ro 1 (p2.path.map (fun z => [.i .i64 z]))], .agg [.i .i64 p3.k, .ro 5 (p3.uses.map useC), .i .i64 p3.s.local_, .ro 1 (p3.s.path.map (fun z => [.i .i64 z])), .i .i64 p3.which, .i .i64 p3.tag]] [] (.b (lMirTypes p0 p1 p2 p3)) [] := by
 refine QC.of_body tabOK func9 rfl (by kernel_rfl) ?_
 simp only [f9]
 generalize e : lMirTypes p0 p1 p2 p3 = R
 unfold lMirTypes at e
 refine EV.seq ?_
 refine EV.regionG tabOK ?_ -- region 0
 simp (maxSteps := 2000000) -implicitDefEqProofs
 refine EV.seq ?_
 refine EV.regionG tabOK ?_ -- region 1
 simp (maxSteps := 2000000) -implicitDefEqProofs
 refine callG_fun (w_works09) ?_ ?_
 ·simp
 simp (maxSteps := 2000000) -implicitDefEqProofs
 refine EV.seq ?_
 refine EV.seq ?_
 refine EV.regionG tabOK ?_ -- region 2
 simp (maxSteps := 2000000) -implicitDefEqProofs
 refine EV.condT ?_
 simp -implicitDefEqProofs
 refine EV.skip ?_
 simp only [thenK_normal, blockK_normal, scopeK_normal]
 refine EV.seq ?_
 refine EV.regionG tabOK ?_ -- region 4
 simp (maxSteps := 2000000) -implicitDefEqProofs
 refine callG_fun (w_zLarge p0 250) ?_ ?_
 ·simp
 simp (maxSteps := 2000000) -implicitDefEqProofs
 refine EV.seq ?_
 refine EV.seq ?_
 refine EV.nrm (fun _ : Unit => (⟨[J, J, J, J, .ptr 0 0 0 0, .ptr 1 0 0 0, .ptr 2 0 0 0, .ptr 3 0 0 0, J, .b true, J, J, J, J, J, J, J, J, J, J, J, J, J, J, J, J, J, J, J, J, J, J, J, J, J, J, J, J, J, J, J, J, J, J, J, J, J, J, J, J, J, J, .b (((((zLarge p0 250) || (zOver p1 250)) || (decide (20 < (p2.path.length : Int)))) || (decide (20 < (p3.uses.length : Int)))) || (decide (20 < (p3.s.path.length : Int)))), J, J, J, J, J, J, J, J, J, J, J, J, J, J, J, J, J, J, J, J, J, J, J, J, J, J, J, J, J, J, J, J, J, J, J, J, J, J, J, J, J, J, J, J, J, J, J, J, J, J, J, J, J, J, J, J, J, J, J, J, J, J, J, J, J, J, J, J, J, J, J, J, J, J, J, J], [.arr 0 3 [[.ro 4 (p0.structs.map structC), .ro 3 (p0.enums.map enumC), .ro 4 (p0.fns.map fnC)]], .arr 0 4 [[.s p1.name, .i .i64 p1.params, .ro 4 (p1.locals.map localC), .ro 17 (p1.blocks.map blockC)]], .arr 0 2 [[.i .i64 p2.local_, .ro 1 (p2.path.map (fun z => [.i .i64 z]))]], .arr 0 6 [[.i .i64 p3.k, .ro 5 (p3.uses.map useC), .i .i64 p3.s.local_, .ro 1 (p3.s.path.map (fun z => [.i .i64 z])), .i .i64 p3.which, .i .i64 p3.tag]]]⟩ : St)) ?_ ?_
 ·skip
  cases k2 : (zLarge p0 250)
  ·skip
   have kk2 := k2
   try simp at kk2
   refine EV.regionG tabOK ?_ -- region 5
   simp (maxSteps := 2000000) -implicitDefEqProofs +contextual [k2, kk2]
   refine callG_fun (w_zOver p1 250) ?_ ?_
   ·first | (simp; done) | (simp [k2, kk2]; done)
   simp (maxSteps := 2000000) -implicitDefEqProofs +contextual [k2, kk2]
   refine ⟨(), ?_⟩
   try dsimp only
   refine Sub.cutF 4 (by simp) ?_ ?_ <;> simp [List.range_succ, toIdx_range, passed, k2, kk2] <;> grind
  ·skip
   have kk2 := k2
   try simp at kk2
   refine EV.regionG tabOK ?_ -- region 5
   simp (maxSteps := 2000000) -implicitDefEqProofs +contextual [k2, kk2]
   refine ⟨(), ?_⟩
   try dsimp only
   refine Sub.cutF 4 (by simp) ?_ ?_ <;> simp [List.range_succ, toIdx_range, passed, k2, kk2] <;> grind
 ·skip
  rintro _
  simp only [thenK_normal, blockK_normal, scopeK_normal, bodyK_normal]
  refine EV.condT ?_
  simp -implicitDefEqProofs
  refine condT_intro (fun k3 => ?_) (fun k3 => ?_)
  ·try simp at k3
   obtain ⟨f3, e⟩ := pos_on2 e (by first | simpa using k3 | grind)
   try simp at f3
   refine EV.seq ?_
   refine EV.regionG tabOK ?_ -- region 6
   simp (maxSteps := 2000000) -implicitDefEqProofs
   refine EV.ret ?_
   simp only [thenK_ret, blockK_ret, scopeK_ret, bodyK_ret]
   subst e
   refine Fin.pure0 ?_
   first | (simp; done) | (simp <;> grind)
  ·try simp at k3
   obtain ⟨f3, e⟩ := neg_on2 e (by first | simpa using k3 | grind)
   try simp at f3
   refine EV.skip ?_
   simp only [thenK_normal, blockK_normal, scopeK_normal]
   refine EV.seq ?_
   refine EV.seq ?_
   refine EV.regionG tabOK ?_ -- region 7
   simp (maxSteps := 2000000) -implicitDefEqProofs
   obtain ⟨z8, e8, e⟩ := run_split e
   refine EV.nrm (fun v : { v : (Unit) × (Unit) // z8 = .go v.1 } => (fun (v8 : Unit) (g8 : Unit) => (⟨[J, J, J, J, .ptr 0 0 0 0, .ptr 1 0 0 0, .ptr 2 0 0 0, .ptr 3 0 0 0, J, .b true, J, J, J, J, J, J, J, J, J, J, J, J, J, J, J, J, J, J, J, J, J, J, J, J, J, J, J, J, J, J, J, J, J, J, J, J, J, J, J, J, J, J, J, J, J, J, J, J, J, J, J, J, J, J, J, J, J, J, J, J, J, J, J, J, J, J, J, J, J, J, J, J, J, J, J, J, J, J, J, J, J, J, J, J, J, J, J, J, J, J, J, J, J, J, J, J, J, J, J, J, J, J, J, J, J, J, J, J, J, J, J, J, J, J, J, J, J, J, J], [.arr 0 3 [[.ro 4 (p0.structs.map structC), .ro 3 (p0.enums.map enumC), .ro 4 (p0.fns.map fnC)]], .arr 0 4 [[.s p1.name, .i .i64 p1.params, .ro 4 (p1.locals.map localC), .ro 17 (p1.blocks.map blockC)]], .arr 0 2 [[.i .i64 p2.local_, .ro 1 (p2.path.map (fun z => [.i .i64 z]))]], .arr 0 6 [[.i .i64 p3.k, .ro 5 (p3.uses.map useC), .i .i64 p3.s.local_, .ro 1 (p3.s.path.map (fun z => [.i .i64 z])), .i .i64 p3.which, .i .i64 p3.tag]]]⟩ : St)) v.1.1 v.1.2) ?_ ?_
   ·skip
    refine EV.block ?_
    refine EV.loopB (fun x : { x : Nat // x ≤ p3.uses.length ∧ lMirTypes_l8 (p3.uses.drop x) = z8 } => (fun (j8 : Nat) => (⟨[J, J, J, J, .ptr 0 0 0 0, .ptr 1 0 0 0, .ptr 2 0 0 0, .ptr 3 0 0 0, J, .b true, J, .i .i64 (j8 : Int), J, J, J, J, J, J, J, J, J, J, J, J, J, J, J, J, J, J, J, J, J, J, J, J, J, J, J, J, J, J, J, J, J, J, J, J, J, J, J, J, J, J, J, J, J, J, J, J, J, J, J, J, J, J, J, J, J, J, J, J, J, J, J, J, J, J, J, J, J, J, J, J, J, J, J, J, J, J, J, J, J, J, J, J, J, J, J, J, J, J, J, J, J, J, J, J, J, J, J, J, J, J, J, J, J, J, J, J, J, J, J, J, J, J, J, J, J], [.arr 0 3 [[.ro 4 (p0.structs.map structC), .ro 3 (p0.enums.map enumC), .ro 4 (p0.fns.map fnC)]], .arr 0 4 [[.s p1.name, .i .i64 p1.params, .ro 4 (p1.locals.map localC), .ro 17 (p1.blocks.map blockC)]], .arr 0 2 [[.i .i64 p2.local_, .ro 1 (p2.path.map (fun z => [.i .i64 z]))]], .arr 0 6 [[.i .i64 p3.k, .ro 5 (p3.uses.map useC), .i .i64 p3.s.local_, .ro 1 (p3.s.path.map (fun z => [.i .i64 z])), .i .i64 p3.which, .i .i64 p3.tag]]]⟩ : St)) x.1) (fun x => p3.uses.length - x.1) ⟨0, Nat.zero_le _, e8⟩ ?_ ?_
    ·skip
     try dsimp only
     try dsimp only
     refine Sub.cutF 4 (by simp) ?_ ?_ <;> simp [List.range_succ, toIdx_range, passed] <;> grind
    ·skip
     rintro ⟨j8, hi8, e8⟩
     simp only at hi8 e8 ⊢
     refine EV.seq ?_
     refine EV.seq ?_
     refine EV.regionG tabOK ?_ -- region 8
     simp (maxSteps := 2000000) -implicitDefEqProofs
     refine EV.room 56 (by rfl) (fun mj8 => ?_)
     simp at mj8
     refine EV.condT ?_
     simp -implicitDefEqProofs
     refine condT_intro (fun k4 => ?_) (fun k4 => ?_)
     ·try simp at k4
      have u4 : j8 < p3.uses.length := by omega
      obtain ⟨x8, hx8⟩ : ∃ z, p3.uses[j8] = z := ⟨_, rfl⟩
      have mx8 : x8 ∈ p3.uses := by rw [← hx8]; exact List.getElem_mem _
      rw [List.drop_eq_getElem_cons u4, hx8, lMirTypes_l8] at e8
      refine EV.skip ?_
      simp only [thenK_normal, blockK_normal, scopeK_normal]
      refine EV.seq ?_
      refine EV.block ?_
      refine EV.seq ?_
      refine EV.regionG tabOK ?_ -- region 10
      simp (maxSteps := 2000000) -implicitDefEqProofs [k4, u4, hx8]
      refine EV.condT ?_
      simp -implicitDefEqProofs [k4, u4, hx8]
      refine condT_intro (fun k5 => ?_) (fun k5 => ?_)
      ·try simp at k5
       obtain ⟨f5, e8⟩ := pos_on2 e8 (by first | simpa using k5 | grind)
       try simp at f5
       refine EV.seq ?_
       refine EV.regionG tabOK ?_ -- region 11
       simp (maxSteps := 2000000) -implicitDefEqProofs [k4, u4, hx8]
       refine EV.ret ?_
       simp only [thenK_ret, blockK_ret, scopeK_ret, bodyK_ret]
       replace e := run_back e e8
       subst e
       refine Fin.pure0 ?_
       first | (simp; done) | (simp <;> grind)
      ·try simp at k5
       obtain ⟨f5, e8⟩ := neg_on2 e8 (by first | simpa using k5 | grind)
       try simp at f5
       refine EV.skip ?_
       simp only [thenK_normal, blockK_normal, scopeK_normal]
       refine EV.regionG tabOK ?_ -- region 9
       simp (maxSteps := 2000000) -implicitDefEqProofs [k4, u4, hx8]
       have w8 : IntKind.i64.wrap ((j8 : Int) + 1) = (j8 : Int) + 1 := wrap_in _ (by omega) (by omega)
       refine ⟨⟨j8 + 1, by omega, e8⟩, by dsimp only; omega, ?_⟩
       try dsimp only
       refine Sub.cutF 4 (by simp) ?_ ?_ <;> simp [List.range_succ, toIdx_range, passed, k4, u4, hx8, w8] <;> grind
     ·try simp at k4
      have d4 : p3.uses.drop j8 = [] := List.drop_eq_nil_of_le (by omega)
      rw [d4, lMirTypes_l8] at e8
      refine EV.exit ?_
      simp -implicitDefEqProofs
      refine ⟨⟨((), ()), e8.symm⟩, ?_⟩
      try dsimp only
      refine Sub.cutF 4 (by simp) ?_ ?_ <;> simp [List.range_succ, toIdx_range, passed] <;> grind
   ·skip
    rintro ⟨⟨v8, g8⟩, e8⟩
    simp only [thenK_normal, blockK_normal, scopeK_normal, bodyK_normal]
    replace e := run_on e e8
    try dsimp only at e
    refine EV.seq ?_
    refine EV.regionG tabOK ?_ -- region 12
    simp (maxSteps := 2000000) -implicitDefEqProofs
    refine callG_fun (w_mType p0 p1 p2) ?_ ?_
    ·simp
    simp (maxSteps := 2000000) -implicitDefEqProofs
    refine EV.seq ?_
    refine EV.regionG tabOK ?_ -- region 13
    simp (maxSteps := 2000000) -implicitDefEqProofs
    refine callG_fun (w_rType p0 p1 p2) ?_ ?_
    ·simp
    simp (maxSteps := 2000000) -implicitDefEqProofs
    refine EV.seq ?_
    refine EV.regionG tabOK ?_ -- region 14
    simp (maxSteps := 2000000) -implicitDefEqProofs
    refine callG_fun (w_rSameTy ((mType p0 p1 p2).1) ((rType p0 p1 p2).1)) ?_ ?_
    ·simp
    simp (maxSteps := 2000000) -implicitDefEqProofs
    refine EV.seq ?_
    refine EV.regionG tabOK ?_ -- region 15
    simp (maxSteps := 2000000) -implicitDefEqProofs
    refine callG_fun (w_mValueF p0 p1 p3 hs) ?_ ?_
    ·simp
    simp (maxSteps := 2000000) -implicitDefEqProofs
    refine EV.seq ?_
    refine EV.regionG tabOK ?_ -- region 16
    simp (maxSteps := 2000000) -implicitDefEqProofs
    refine callG_fun (w_rValue p0 p1 p3 hs) ?_ ?_
    ·simp
    simp (maxSteps := 2000000) -implicitDefEqProofs
    refine EV.seq ?_
    refine EV.regionG tabOK ?_ -- region 17
    simp (maxSteps := 2000000) -implicitDefEqProofs
    refine callG_fun (w_rSameTy ((mValueF p0 p1 p3).1) ((rValue p0 p1 p3).1)) ?_ ?_
    ·simp
    simp (maxSteps := 2000000) -implicitDefEqProofs
    refine EV.seq ?_
    refine EV.regionG tabOK ?_ -- region 18
    simp (maxSteps := 2000000) -implicitDefEqProofs +contextual
    refine EV.ret ?_
    simp only [thenK_ret, blockK_ret, scopeK_ret, bodyK_ret]
    subst e
    refine Fin.pure0 ?_
    first | (simp; done) | (simp <;> grind)
end
end Go.Proofs.Tryz
end
section
namespace Go.Proofs.Tryz
open Go Go.AM

theorem kStruct_eq (c : List UInt8) : ∀ (l : List StructD) (j : Nat), ixStruct_l2 (kStructOf_1 c) l j = rStructOf_l2 c l j
  | [], _ => rfl
  | x :: l, j => by simp only [ixStruct_l2, rStructOf_l2, kStructOf_1, decide_eq_true_eq]; rw [kStruct_eq c l]
theorem kStructOf_eq (s : SourceD) (c : List UInt8) : kStructOf s c = rStructOf s c := by simp only [kStructOf, ixStruct, rStructOf, kStruct_eq]
theorem kEnum_eq (c : List UInt8) : ∀ (l : List EnumD) (j : Nat), ixEnum_l2 (kEnumOf_1 c) l j = rEnumOf_l2 c l j
  | [], _ => rfl
  | x :: l, j => by simp only [ixEnum_l2, rEnumOf_l2, kEnumOf_1, decide_eq_true_eq]; rw [kEnum_eq c l]
theorem kEnumOf_eq (s : SourceD) (c : List UInt8) : kEnumOf s c = rEnumOf s c := by simp only [kEnumOf, ixEnum, rEnumOf, kEnum_eq]
theorem kFn_eq (c : List UInt8) : ∀ (l : List FnD) (j : Nat), ixFn_l2 (kFnOf_1 c) l j = rFnOf_l2 c l j
  | [], _ => rfl
  | x :: l, j => by simp only [ixFn_l2, rFnOf_l2, kFnOf_1, decide_eq_true_eq]; rw [kFn_eq c l]
theorem kFnOf_eq (s : SourceD) (c : List UInt8) : kFnOf s c = rFnOf s c := by simp only [kFnOf, ixFn, rFnOf, kFn_eq]

theorem run_ite {ρ ν : Type} {c : Prop} [Decidable c] {a b : Ctl ρ ν} {f : ν → ρ} : (if c then a else b).run f = if c then a.run f else b.run f := by split <;> rfl
theorem bind_ite {ρ ν μ : Type} {c : Prop} [Decidable c] {a b : Ctl ρ ν} {f : ν → Ctl ρ μ} : (if c then a else b).bind f = if c then a.bind f else b.bind f := by split <;> rfl
theorem run_bind {ρ ν μ : Type} {a : Ctl ρ ν} {g : ν → Ctl ρ μ} {f : μ → ρ} : (a.bind g).run f = a.run fun v => (g v).run f := by cases a <;> rfl
theorem ixTy_any (f : TyD → Bool) : ∀ (l : List TyD) (j : Nat), 0 ≤ ((ixTy_l2 f l j).run fun _ => (-1 : Int)) ↔ l.any f = true
  | [], j => by simp [ixTy_l2, Ctl.run]
  | x :: l, j => by
    rw [List.any_cons]
    by_cases h : f x = true
    · rw [show ixTy_l2 f (x :: l) j = .ret (j : Int) from if_pos h, h]; simp [Ctl.run]
    · rw [show ixTy_l2 f (x :: l) j = ixTy_l2 f l (j + 1) from if_neg h, Bool.eq_false_iff.2 h]; simpa using ixTy_any f l (j + 1)
theorem cfTy_any (l : List TyD) (f : TyD → Bool) : cfTy l f = l.any f := by
  unfold cfTy ixTy
  rw [Bool.eq_iff_iff, decide_eq_true_eq]
  exact ixTy_any f l 0
theorem rHolds_any (f : TyD → Bool) : ∀ (l : List TyD), ((rHolds_b_l4 f l).run fun _ => false) = l.any f
  | [] => rfl
  | x :: l => by
    simp only [rHolds_b_l4, List.any_cons]
    by_cases h : f x = true
    · rw [if_pos h, h]; simp [Ctl.run]
    · rw [if_neg h, Bool.eq_false_iff.2 h]; simpa using rHolds_any f l
theorem kHolds_b_eq (r : TyD → Bool) (t : TyD) : kHolds_b r t = rHolds_b r t := by
  unfold kHolds_b rHolds_b
  rw [cfTy_any, rHolds_any]
  by_cases h5 : t.k = 5 <;> by_cases h6 : t.k = 6 <;> simp_all
theorem kHolds_f_eq : ∀ k, kHolds_f k = rHolds_f k
  | 0 => rfl
  | k + 1 => by funext t; simp only [kHolds_f, rHolds_f]; rw [kHolds_f_eq k]; exact kHolds_b_eq _ _
theorem kHolds_eq : kHolds = rHolds := by funext t; unfold kHolds rHolds; rw [kHolds_f_eq]

theorem eqTy_l_eq (r : TyD → TyD → Bool) (b : TyD) : ∀ (l : List TyD) (j : Nat), eqTy_l4 b.l r l j = rSameTy_b_l4 r b l j
  | [], _ => rfl
  | x :: l, j => by simp only [eqTy_l4, rSameTy_b_l4, bnd]; rw [eqTy_l_eq r b l]
theorem mSame_b_eq (r : TyD → TyD → Bool) (a b : TyD) : mSame_b r a b = rSameTy_b r a b := by
  unfold mSame_b rSameTy_b eqTy
  rw [eqTy_l_eq]
  by_cases h1 : a.k = b.k <;> by_cases h2 : a.name = b.name <;> by_cases h3 : (a.l.length : Int) = b.l.length <;> simp_all
theorem mSame_f_eq : ∀ k, mSame_f k = rSameTy_f k
  | 0 => rfl
  | k + 1 => by funext a b; simp only [mSame_f, rSameTy_f]; rw [mSame_f_eq k]; exact mSame_b_eq _ _ _
theorem mSame_eq : mSame = rSameTy := by funext a b; unfold mSame rSameTy; rw [mSame_f_eq]

theorem kResolve_b_eq (r : SourceD → TyD → TyD × Int) (s : SourceD) (t : TyD) : kResolve_b r s t = rResolve_b r s t := by
  unfold kResolve_b rResolve_b
  simp only [kStructOf_eq, kEnumOf_eq, kFnOf_eq, bnd]
  by_cases h1 : t.k = 1
  · simp [h1, Ctl.run]
  by_cases h2 : t.k = 2
  · simp only [h1, h2, if_true, if_false]
    by_cases h : rStructOf s t.name < 0
    · have h' : ¬ 0 ≤ rStructOf s t.name := by omega
      by_cases h3 : rEnumOf s t.name < 0
      · have h3' : ¬ 0 ≤ rEnumOf s t.name := by omega
        simp [h, h', h3, h3', Ctl.run]
      · have h3' : 0 ≤ rEnumOf s t.name := by omega
        simp [h, h', h3, h3', Ctl.run]
    · have h' : 0 ≤ rStructOf s t.name := by omega
      simp [h, h', Ctl.run]
  by_cases h3 : t.k = 3
  · simp only [h1, h2, h3, if_true, if_false]
    by_cases h : rEnumOf s t.name < 0
    · have h' : ¬ 0 ≤ rEnumOf s t.name := by omega
      simp [h, h', Ctl.run]
    · have h' : 0 ≤ rEnumOf s t.name := by omega
      simp [h, h', Ctl.run]
  by_cases h7 : t.k = 7
  · simp only [h1, h2, h3, h7, if_true, if_false]
    by_cases h : rFnOf s t.name < 0
    · have h' : ¬ 0 ≤ rFnOf s t.name := by omega
      simp [h, h', Ctl.run]
    · have h' : 0 ≤ rFnOf s t.name := by omega
      simp [h, h', Ctl.run]
  simp only [h1, h2, h3, h7, if_false, run_ite, Ctl.run_ret, Ctl.run_go, not_true_eq_false]
theorem kResolve_f_eq : ∀ k, kResolve_f k = rResolve_f k
  | 0 => rfl
  | k + 1 => by funext s t; simp only [kResolve_f, rResolve_f]; rw [kResolve_f_eq k]; exact kResolve_b_eq _ _ _
theorem kResolve_eq : kResolve = rResolve := by funext s t; unfold kResolve rResolve; rw [kResolve_f_eq]
theorem kCopies_eq : kCopies = rCopies := by
  funext t
  unfold kCopies rCopies
  by_cases h0 : t.k = 0 <;> by_cases h1 : t.k = 1 <;> by_cases h5 : t.k = 5 <;> simp_all

theorem mSpot_l_eq (s : SourceD) (b : BodyD) : ∀ (l : List Int) (sh : Bool) (t : TyD), mSpot_l5 ⟨s, b⟩ l sh t = rType_l6 s l sh t
  | [], _, _ => rfl
  | k :: l, sh, t => by
    simp only [mSpot_l5, rType_l6, mStep, kStructOf_eq, kResolve_eq, bnd]
    by_cases hk : k = -1
    · simp only [hk, if_true]
      by_cases hl : (t.l.length : Int) = 1
      · by_cases h4 : t.k = 4
        · simp [hl, h4, Ctl.run, mSpot_l_eq s b l]
        by_cases h5 : t.k = 5
        · simp [hl, h5, Ctl.run, mSpot_l_eq s b l]
        by_cases h6 : t.k = 6
        · simp [hl, h6, Ctl.run, mSpot_l_eq s b l]
        simp [h4, h5, h6, Ctl.run]
      · simp [hl, Ctl.run]
    · simp only [hk, if_false, decide_false, Bool.false_and, Bool.or_false]
      split
      · simp
      · by_cases he : (rResolve s ((s.structs.getD (rStructOf s t.name).toNat default).fields.getD k.toNat default).ty).2 = 0
        · simp only [he, decide_true, not_true_eq_false, if_false]
          exact mSpot_l_eq s b l _ _
        · simp only [he, decide_false, not_false_eq_true, if_true, Bool.false_eq_true]
theorem mSpot_eq (s : SourceD) (b : BodyD) (x : SpotD) : mSpot ⟨s, b⟩ x = rType s b x := by
  unfold mSpot rType
  simp only [mSpot_l_eq, bnd]
theorem mType_eq (s : SourceD) (b : BodyD) (x : SpotD) : mType s b x = rType s b x := by
  unfold mType
  rw [mSpot_eq]
theorem mEmpty_eq : mEmpty = rNoSpot := rfl
theorem mUse_eq (s : SourceD) (b : BodyD) (u : UseD) : mUse ⟨s, b⟩ u = rUse s b u := by
  unfold mUse rUse
  simp only [mSpot_eq, kCopies_eq, mEmpty_eq]
  first | done | rfl | grind
theorem mUses_l_eq (s : SourceD) (b : BodyD) (w : List TyD) : ∀ (l : List UseD) (j : Nat), mUses_l4 ⟨s, b⟩ w l j = rUses_l4 s b w l j
  | [], _ => rfl
  | u :: l, j => by simp only [mUses_l4, rUses_l4, mUse_eq, kResolve_eq, mSame_eq, mUses_l_eq s b w l]
theorem mUses_eq (s : SourceD) (b : BodyD) (l : List UseD) (w : List TyD) : mUses ⟨s, b⟩ l w = rUses s b l w := by
  unfold mUses rUses
  rw [mUses_l_eq]
theorem mTypes_l_eq : ∀ (l : List FieldD) (a : List TyD), mTypes_l3 l a = rTys_l3 l a
  | [], _ => rfl
  | x :: l, a => by simp only [mTypes_l3, rTys_l3, mTypes_l_eq l]
theorem mTypes_eq : mTypes = rTys := by funext l; unfold mTypes rTys; rw [mTypes_l_eq]

theorem mRefers_eq (s : SourceD) (b : BodyD) (v : ValueD) : mRefers ⟨s, b⟩ v =
    (if ¬ ((rType s b v.s).2.2 = 0) then (⟨0, [], []⟩, (rType s b v.s).2.2) else if rHolds (rType s b v.s).1 = true then (⟨0, [], []⟩, 73) else
      if v.k = 7 ∧ (rType s b v.s).2.1 = true then (⟨0, [], []⟩, 84) else if 0 < (v.uses.length : Int) then (⟨0, [], []⟩, 81) else (⟨if v.k = 7 then 6 else 5, [], [(rType s b v.s).1]⟩, 0)) := by
  unfold mRefers
  simp only [mSpot_eq, kHolds_eq, bnd]
  by_cases h : v.k = 7 <;> simp [h]

theorem mValue_eq (s : SourceD) (b : BodyD) (v : ValueD) : mValue ⟨s, b⟩ v = rValue s b v := by
  unfold mValue rValue mWhich
  simp only [mRefers_eq, mUnboxes, mMade, mSpot_eq, mEmpty_eq, mUses_eq, mUse_eq, mTypes_eq, kHolds_eq, bnd, rNone]
  by_cases h0 : v.k = 0
  · simp only [h0]; simp [run_ite, bind_ite, run_bind, Ctl.run_ret, Ctl.run_go, Ctl.bind_ret, Ctl.bind_go]; grind
  by_cases h8 : v.k = 8
  · simp only [h8]; simp [run_ite, bind_ite, run_bind, Ctl.run_ret, Ctl.run_go, Ctl.bind_ret, Ctl.bind_go]; grind
  by_cases h6 : v.k = 6
  · simp only [h6]
    by_cases hu : v.uses = []
    · by_cases hw : v.which = 0 <;> by_cases ht : v.tag = 0 <;> simp [hu, hw, ht, run_ite, bind_ite, run_bind, Ctl.run_ret, Ctl.run_go, Ctl.bind_ret, Ctl.bind_go] <;> grind
    · have hp := List.length_pos_iff.2 hu
      by_cases hw : v.which = 0 <;> by_cases ht : v.tag = 0 <;> simp [hu, hp, hw, ht, run_ite, bind_ite, run_bind, Ctl.run_ret, Ctl.run_go, Ctl.bind_ret, Ctl.bind_go] <;> grind
  by_cases h7 : v.k = 7
  · simp only [h7]
    by_cases hu : v.uses = []
    · by_cases hw : v.which = 0 <;> by_cases ht : v.tag = 0 <;> simp [hu, hw, ht, run_ite, bind_ite, run_bind, Ctl.run_ret, Ctl.run_go, Ctl.bind_ret, Ctl.bind_go] <;> grind
    · have hp := List.length_pos_iff.2 hu
      by_cases hw : v.which = 0 <;> by_cases ht : v.tag = 0 <;> simp [hu, hp, hw, ht, run_ite, bind_ite, run_bind, Ctl.run_ret, Ctl.run_go, Ctl.bind_ret, Ctl.bind_go] <;> grind
  by_cases h9 : v.k = 9
  · simp only [h9]
    by_cases hu : v.uses = []
    · by_cases hw : v.which = 0 <;> by_cases ht : v.tag = 0 <;> simp [hu, hw, ht, run_ite, bind_ite, run_bind, Ctl.run_ret, Ctl.run_go, Ctl.bind_ret, Ctl.bind_go] <;> grind
    · have hp := List.length_pos_iff.2 hu
      by_cases hw : v.which = 0 <;> by_cases ht : v.tag = 0 <;> simp [hu, hp, hw, ht, run_ite, bind_ite, run_bind, Ctl.run_ret, Ctl.run_go, Ctl.bind_ret, Ctl.bind_go] <;> grind
  by_cases h10 : v.k = 10
  · simp only [h10]; simp [run_ite, bind_ite, run_bind, Ctl.run_ret, Ctl.run_go, Ctl.bind_ret, Ctl.bind_go]; grind
  by_cases h11 : v.k = 11
  · simp only [h11]; simp [run_ite, bind_ite, run_bind, Ctl.run_ret, Ctl.run_go, Ctl.bind_ret, Ctl.bind_go]; grind
  by_cases h12 : v.k = 12
  · simp only [h12]; simp [run_ite, bind_ite, run_bind, Ctl.run_ret, Ctl.run_go, Ctl.bind_ret, Ctl.bind_go]; grind
  simp only [h0, h8, h6, h7, h9, h10, h11, h12]; simp [run_ite, bind_ite, run_bind, Ctl.run_ret, Ctl.run_go, Ctl.bind_ret, Ctl.bind_go]; grind
theorem mValueF_eq (s : SourceD) (b : BodyD) (v : ValueD) : mValueF s b v = rValue s b v := by
  unfold mValueF
  rw [mValue_eq]
end Go.Proofs.Tryz
end
section
namespace Go.Proofs.Tryz
open Go Go.AM

theorem sameL (r : TyD → TyD → Bool) (b : TyD) : ∀ (l : List TyD) (j : Nat), ((rSameTy_b_l4 r b l j).run fun _ => true) = true ↔ ∀ (i : Nat) (x : TyD), l[i]? = some x → r x (b.l.getD (j + i) default) = true
  | [], j => by simp [rSameTy_b_l4, Ctl.run]
  | x :: l, j => by
    by_cases h : r x (b.l.getD j default) = true
    · have e : rSameTy_b_l4 r b (x :: l) j = rSameTy_b_l4 r b l (j + 1) := by
        simp only [rSameTy_b_l4, bnd]
        rw [if_neg (by simpa using h)]
      rw [e, sameL r b l (j + 1)]
      constructor
      · intro H i y hy
        cases i with
        | zero => simp at hy; subst hy; simpa using h
        | succ i =>
          have := H i y (by simpa using hy)
          rwa [show j + 1 + i = j + (i + 1) by omega] at this
      · intro H i y hy
        have := H (i + 1) y (by simpa using hy)
        rwa [show j + (i + 1) = j + 1 + i by omega] at this
    · have e : rSameTy_b_l4 r b (x :: l) j = .ret false := by
        simp only [rSameTy_b_l4, bnd]
        rw [if_pos h]
      rw [e]
      constructor
      · intro H; cases H
      · intro H; exact absurd (by simpa using H 0 x rfl) h
theorem same_f : ∀ (k : Nat) (a b : TyD), SizeOf.sizeOf a < k → (rSameTy_f k a b = true ↔ a = b)
  | 0, _, _, h => absurd h (Nat.not_lt_zero _)
  | k + 1, a, b, h => by
    have hsz : ∀ x ∈ a.l, SizeOf.sizeOf x < k := by
      intro x hx
      have h1 := List.sizeOf_lt_of_mem hx
      have h2 := sz_TyD_l a
      omega
    rw [rSameTy_f]
    unfold rSameTy_b
    split
    · rename_i hc
      constructor
      · intro H; cases H
      · rintro rfl; simp at hc
    · rename_i hc
      have h1 : a.k = b.k := by
        by_cases q : a.k = b.k
        · exact q
        · exact absurd (.inl (.inl q)) hc
      have h2 : a.name = b.name := by
        by_cases q : a.name = b.name
        · exact q
        · exact absurd (.inl (.inr q)) hc
      have h3 : a.l.length = b.l.length := by
        by_cases q : (a.l.length : Int) = b.l.length
        · omega
        · exact absurd (.inr q) hc
      rw [sameL]
      constructor
      · intro H
        have hl : a.l = b.l := by
          refine List.ext_getElem h3 fun i q1 q2 => ?_
          have := H i a.l[i] (List.getElem?_eq_getElem q1)
          rw [Nat.zero_add, List.getD_eq_getElem?_getD, List.getElem?_eq_getElem q2] at this
          exact (same_f k _ _ (hsz _ (List.getElem_mem q1))).1 this
        cases a; cases b
        simp_all
      · rintro rfl i x hx
        rw [Nat.zero_add, List.getD_eq_getElem?_getD, hx]
        exact (same_f k x x (hsz _ (List.mem_of_getElem? hx))).2 rfl
theorem rSameTy_iff (a b : TyD) : rSameTy a b = true ↔ a = b := same_f _ a b (Nat.lt_succ_self _)
theorem rSameTy_refl (a : TyD) : rSameTy a a = true := (rSameTy_iff a a).2 rfl
theorem rSameTy_symm (a b : TyD) : rSameTy a b = rSameTy b a := by
  rw [Bool.eq_iff_iff, rSameTy_iff, rSameTy_iff]
  exact eq_comm

end Go.Proofs.Tryz
end
section
namespace Go.Proofs.Tryz
open Go Go.AM

theorem lMirTypes_loop : ∀ (l : List UseD), lMirTypes_l8 l = .ret true ∨ lMirTypes_l8 l = .go ()
  | [] => .inr rfl
  | u :: l => by
    simp only [lMirTypes_l8]
    split
    · exact .inl rfl
    · exact lMirTypes_loop l
theorem lMirTypes_true (s : SourceD) (b : BodyD) (x : SpotD) (v : ValueD) : lMirTypes s b x v = true := by
  unfold lMirTypes
  split
  · rfl
  · rcases lMirTypes_loop v.uses with h | h
    · rw [h]; rfl
    · rw [h, Ctl.run_go, mType_eq, mValueF_eq, rSameTy_refl, rSameTy_refl]
      simp
end Go.Proofs.Tryz
end
section
namespace Go.Proofs.Tryz
open Go Go.AM
attribute [local simp] wpG_op wpG_nil contG_some wpG_guard guardG_v guardG_o guardG_tup gval pureOp stepG_if isPick pickG_pick pickB_b pickOK isCall step_move step_assign step_alloc step_box boxV_some step_load step_store step_binOp step_unOp step_fieldAddr faV step_indexAddr ixA_slc ixA_arr step_extract extV_tup step_nilCheck ncV_ptr ncV_rp ncV_fn ncV_mp step_build buildV step_buildSlice bsV step_index ixV_arr ixV_str step_append apB step_makeSlice msV_i step_makeFunc over step_len step_makeMap mmV step_mapUpdate step_insert muA_map muB_mp step_lookup lkA_map lkB_mp step_slice slcV_s slcV_sl slcV_ro cutB_some slObV_arr bound_none bound_some bndV_i lenB_str lenB_ro lenB_sl lenB_nil lenB_z ld_ptr ld_rp offV_ptr offV_rp idxV_ro idxV_sl unV_not unV_neg binV_int binV_str binV_eqlb binV_neqb intOp strOp St.put updL setOb St.ev toV St.lk cellsOf AM.valOf TK.agg stv fillV places TI.zero condT_true condT_false finS resL resSlot packV ren ren1 ren0 Value.cells builtinV appendV elemsOf keepT room_of wrap_in toIdx passed Function.comp_def take_len_map lenV touchOf hid tab1 tab2 tab3 tab4 tab5 tab6 tab7 tab8 tab9 tab10 tab11 tab12 tab13 tab14 tab15 tab16 tab17 tab18 tab19 tab20 tab21 tab22 tab23 tab24 tab25 tab26 tab27 tab28 tab29 tab30 tab31 tab32 tab33 tab34 tab35 tab36 tab37 tab38 tab39 tab40 tab41 tab42 tab43 tab44 tab45 tab46 tab47 tab48 tab49 tab50 tab51 tab52 tab53 tab54 tab55 tab56 tab57 tab58 tab59 tab60 tab61 tab62 tab63 tab64 tab65 tab66 tab67 tab68 tab69 tab70 tab71 tab73 tab74 tab76 tab77 tab78 tab79 tab80 tab81 tab82 tab83 tab84 tab85 tab86 tab87 tab88 tab89 tab90 tab91 tab92 tab93 tab94 tab95 tab96 tab97 tab98 tab99 tab100 tab101 tab102 tab103 tab104 tab105 tab106 tab107 tab108 tab109 tab110 tab111 tab112 tab113 tab114 tab115 tab116 tab117 tab118 tab119 tab120 tab121 tab122 tab123 tab124 tab125 tab126 tab127 tab128 tab129 tab130 tab131 tab132 tab133 tab134 tab135 tab136 tab137 tab138 tab139 tab140 tab141 tab142 tab143 tab144 tab145 tab146 tab147 tab148 tab149 tab150 tab151 tab152 tab153 tab154 tab155 tab156 tab157 tab158 tab159 tab160 tab161 tab162 tab163 tab164 tab165 tab166 tab167 tab168 tab169 tab170 tab171 tab172 tab173 tab174 tab175 tab176 tab177 tab178 tab179 tab180 tab181 tab182 tab184 tab185 tab186 tab187 tab188 tab189 tab190 tab191 tab192 tab193 tab194 tab195 tab196 tab197 tab199 tab200 tab201 tab202 tab203 tab205 tab206 tab208 tab209 tab210 tab211 tab212 tab213 tab214 tab215 tab216 tab217 tab218 tab219 tab220 tab221 tab222 tab223 tab224 tab225 tab227 tab228 tab229 tab230 tab231 tab232 tab233 tab234 tab235 tab236 tab237 tab238 tab239 tab240 tab241 tab243 tab244 tab246 tab247 tab249 tab250 tab251 tab252 tab253 tab254 tab255 tab257 tab258 tab259 tab260 tab261 tab262 tab263 tab264 tab265 tab266 tab267 tab268 tab272 tab273 tab274 tab275 tab276 tab277 tab278 armC_eq blockC_eq bodyC_eq enumC_eq fieldC_eq fnC_eq inC_eq localC_eq mirBodyC_eq operC_eq placeC_eq rvC_eq sourceC_eq spotC_eq stepC_eq stmtC_eq structC_eq tmC_eq tyC_eq useC_eq valueC_eq variantC_eq ren_arr ren_gone ren_unborn ren_var ren_row step_convert cvV_i cvV_sl cvV_s cvK_slc cvE_u8 bytesOf bor1 bor2 bor3 bor4
set_option linter.unusedSimpArgs false
set_option linter.unusedVariables false
set_option maxRecDepth 10000
set_option maxHeartbeats 4000000
noncomputable section
set_option linter.unusedVariables false
theorem rd_TyD (k : Nat) (xs : List V) (h : shpW tab k 45 xs) : ∃ x : TyD, xs = tyC x ∧ True := by
  obtain ⟨yss, h1, h2, k', hk, h3⟩ := shpW_fields h (show (tab 45).kind = .str [(0, 42), (1, 9), (2, 43)] from rfl)
  match yss, h2 with
  | [y0, y1, y2], _ =>
    obtain ⟨a0, rfl, b0⟩ := shpW_int (h3 0 _ _ rfl rfl) (show (tab 42).kind = .int .i64 from rfl)
    obtain ⟨a1, rfl, b1⟩ := shpW_str (h3 1 _ _ rfl rfl) (show (tab 9).kind = .string from rfl)
    obtain ⟨a2, rfl, b2, c2⟩ := shpW_slc tyC (fun x => True) (h3 2 _ _ rfl rfl) (show (tab 43).kind = .slc 45 from rfl) (fun k _ l hl => rd_TyD k l hl)
    exact ⟨⟨a0, a1, a2⟩, by rw [h1]; simp [tyC_eq], trivial⟩
termination_by k
decreasing_by all_goals omega

theorem rd_FieldD (k : Nat) (xs : List V) (h : shpW tab k 100 xs) : ∃ x : FieldD, xs = fieldC x ∧ True := by
  obtain ⟨yss, h1, h2, k', hk, h3⟩ := shpW_fields h (show (tab 100).kind = .str [(0, 9), (1, 45)] from rfl)
  match yss, h2 with
  | [y0, y1], _ =>
    obtain ⟨a0, rfl, b0⟩ := shpW_str (h3 0 _ _ rfl rfl) (show (tab 9).kind = .string from rfl)
    obtain ⟨a1, rfl, b1⟩ := rd_TyD _ _ (h3 1 _ _ rfl rfl)
    exact ⟨⟨a0, a1⟩, by rw [h1]; simp [fieldC_eq], trivial⟩

theorem rd_StructD (k : Nat) (xs : List V) (h : shpW tab k 86 xs) : ∃ x : StructD, xs = structC x ∧ x.fields.length ≤ 2199023255551 := by
  obtain ⟨yss, h1, h2, k', hk, h3⟩ := shpW_fields h (show (tab 86).kind = .str [(0, 9), (1, 4), (2, 33), (3, 3)] from rfl)
  match yss, h2 with
  | [y0, y1, y2, y3], _ =>
    obtain ⟨a0, rfl, b0⟩ := shpW_str (h3 0 _ _ rfl rfl) (show (tab 9).kind = .string from rfl)
    obtain ⟨a1, rfl⟩ := shpW_bool (h3 1 _ _ rfl rfl) (show (tab 4).kind = .bool from rfl)
    obtain ⟨a2, rfl, b2, c2⟩ := shpW_slc fieldC (fun x => True) (h3 2 _ _ rfl rfl) (show (tab 33).kind = .slc 100 from rfl) (fun k _ l hl => rd_FieldD k l hl)
    obtain ⟨a3, rfl, b3⟩ := shpW_int (h3 3 _ _ rfl rfl) (show (tab 3).kind = .int .i64 from rfl)
    exact ⟨⟨a0, a1, a2, a3⟩, by rw [h1]; simp [structC_eq], (show a2.length ≤ 2199023255551 by have := c2; rw [show (tab 100).bytes = 64 from rfl] at this; unfold reachBytes at this; omega)⟩

theorem rd_VariantD (k : Nat) (xs : List V) (h : shpW tab k 92 xs) : ∃ x : VariantD, xs = variantC x ∧ True := by
  obtain ⟨yss, h1, h2, k', hk, h3⟩ := shpW_fields h (show (tab 92).kind = .str [(0, 9), (1, 45)] from rfl)
  match yss, h2 with
  | [y0, y1], _ =>
    obtain ⟨a0, rfl, b0⟩ := shpW_str (h3 0 _ _ rfl rfl) (show (tab 9).kind = .string from rfl)
    obtain ⟨a1, rfl, b1⟩ := rd_TyD _ _ (h3 1 _ _ rfl rfl)
    exact ⟨⟨a0, a1⟩, by rw [h1]; simp [variantC_eq], trivial⟩

theorem rd_EnumD (k : Nat) (xs : List V) (h : shpW tab k 89 xs) : ∃ x : EnumD, xs = enumC x ∧ True := by
  obtain ⟨yss, h1, h2, k', hk, h3⟩ := shpW_fields h (show (tab 89).kind = .str [(0, 9), (1, 87), (2, 3)] from rfl)
  match yss, h2 with
  | [y0, y1, y2], _ =>
    obtain ⟨a0, rfl, b0⟩ := shpW_str (h3 0 _ _ rfl rfl) (show (tab 9).kind = .string from rfl)
    obtain ⟨a1, rfl, b1, c1⟩ := shpW_slc variantC (fun x => True) (h3 1 _ _ rfl rfl) (show (tab 87).kind = .slc 92 from rfl) (fun k _ l hl => rd_VariantD k l hl)
    obtain ⟨a2, rfl, b2⟩ := shpW_int (h3 2 _ _ rfl rfl) (show (tab 3).kind = .int .i64 from rfl)
    exact ⟨⟨a0, a1, a2⟩, by rw [h1]; simp [enumC_eq], trivial⟩

theorem rd_StepD (k : Nat) (xs : List V) (h : shpW tab k 79 xs) : ∃ x : StepD, xs = stepC x ∧ True := by
  obtain ⟨yss, h1, h2, k', hk, h3⟩ := shpW_fields h (show (tab 79).kind = .str [(0, 9)] from rfl)
  match yss, h2 with
  | [y0], _ =>
    obtain ⟨a0, rfl, b0⟩ := shpW_str (h3 0 _ _ rfl rfl) (show (tab 9).kind = .string from rfl)
    exact ⟨⟨a0⟩, by rw [h1]; simp [stepC_eq], trivial⟩

theorem rd_PlaceD (k : Nat) (xs : List V) (h : shpW tab k 39 xs) : ∃ x : PlaceD, xs = placeC x ∧ True := by
  obtain ⟨yss, h1, h2, k', hk, h3⟩ := shpW_fields h (show (tab 39).kind = .str [(0, 9), (1, 37)] from rfl)
  match yss, h2 with
  | [y0, y1], _ =>
    obtain ⟨a0, rfl, b0⟩ := shpW_str (h3 0 _ _ rfl rfl) (show (tab 9).kind = .string from rfl)
    obtain ⟨a1, rfl, b1, c1⟩ := shpW_slc stepC (fun x => True) (h3 1 _ _ rfl rfl) (show (tab 37).kind = .slc 79 from rfl) (fun k _ l hl => rd_StepD k l hl)
    exact ⟨⟨a0, a1⟩, by rw [h1]; simp [placeC_eq], trivial⟩

theorem rd_OperD (k : Nat) (xs : List V) (h : shpW tab k 41 xs) : ∃ x : OperD, xs = operC x ∧ True := by
  obtain ⟨yss, h1, h2, k', hk, h3⟩ := shpW_fields h (show (tab 41).kind = .str [(0, 4), (1, 3), (2, 39)] from rfl)
  match yss, h2 with
  | [y0, y1, y2], _ =>
    obtain ⟨a0, rfl⟩ := shpW_bool (h3 0 _ _ rfl rfl) (show (tab 4).kind = .bool from rfl)
    obtain ⟨a1, rfl, b1⟩ := shpW_int (h3 1 _ _ rfl rfl) (show (tab 3).kind = .int .i64 from rfl)
    obtain ⟨a2, rfl, b2⟩ := rd_PlaceD _ _ (h3 2 _ _ rfl rfl)
    exact ⟨⟨a0, a1, a2⟩, by rw [h1]; simp [operC_eq], trivial⟩

theorem rd_RvD (k : Nat) (xs : List V) (h : shpW tab k 49 xs) : ∃ x : RvD, xs = rvC x ∧ True := by
  obtain ⟨yss, h1, h2, k', hk, h3⟩ := shpW_fields h (show (tab 49).kind = .str [(0, 46), (1, 47), (2, 39), (4, 9), (5, 9)] from rfl)
  match yss, h2 with
  | [y0, y1, y2, y3, y4], _ =>
    obtain ⟨a0, rfl, b0⟩ := shpW_int (h3 0 _ _ rfl rfl) (show (tab 46).kind = .int .i64 from rfl)
    obtain ⟨a1, rfl, b1, c1⟩ := shpW_slc operC (fun x => True) (h3 1 _ _ rfl rfl) (show (tab 47).kind = .slc 41 from rfl) (fun k _ l hl => rd_OperD k l hl)
    obtain ⟨a2, rfl, b2⟩ := rd_PlaceD _ _ (h3 2 _ _ rfl rfl)
    obtain ⟨a3, rfl, b3⟩ := shpW_str (h3 3 _ _ rfl rfl) (show (tab 9).kind = .string from rfl)
    obtain ⟨a4, rfl, b4⟩ := shpW_str (h3 4 _ _ rfl rfl) (show (tab 9).kind = .string from rfl)
    exact ⟨⟨a0, a1, a2, a3, a4⟩, by rw [h1]; simp [rvC_eq], trivial⟩

mutual
theorem rd_ArmD (k : Nat) (xs : List V) (h : shpW tab k 136 xs) : ∃ x : ArmD, xs = armC x ∧ True := by
  obtain ⟨yss, h1, h2, k', hk, h3⟩ := shpW_fields h (show (tab 136).kind = .str [(0, 9), (1, 9), (2, 32)] from rfl)
  match yss, h2 with
  | [y0, y1, y2], _ =>
    obtain ⟨a0, rfl, b0⟩ := shpW_str (h3 0 _ _ rfl rfl) (show (tab 9).kind = .string from rfl)
    obtain ⟨a1, rfl, b1⟩ := shpW_str (h3 1 _ _ rfl rfl) (show (tab 9).kind = .string from rfl)
    obtain ⟨a2, rfl, b2, c2⟩ := shpW_slc stmtC (fun x => True) (h3 2 _ _ rfl rfl) (show (tab 32).kind = .slc 52 from rfl) (fun k _ l hl => rd_StmtD k l hl)
    exact ⟨⟨a0, a1, a2⟩, by rw [h1]; simp [armC_eq], trivial⟩
termination_by k
decreasing_by all_goals omega

theorem rd_StmtD (k : Nat) (xs : List V) (h : shpW tab k 52 xs) : ∃ x : StmtD, xs = stmtC x ∧ True := by
  obtain ⟨yss, h1, h2, k', hk, h3⟩ := shpW_fields h (show (tab 52).kind = .str [(0, 36), (1, 3), (2, 9), (3, 45), (6, 39), (8, 49), (14, 41), (18, 32), (19, 32), (20, 50)] from rfl)
  match yss, h2 with
  | [y0, y1, y2, y3, y4, y5, y6, y7, y8, y9], _ =>
    obtain ⟨a0, rfl, b0⟩ := shpW_int (h3 0 _ _ rfl rfl) (show (tab 36).kind = .int .i64 from rfl)
    obtain ⟨a1, rfl, b1⟩ := shpW_int (h3 1 _ _ rfl rfl) (show (tab 3).kind = .int .i64 from rfl)
    obtain ⟨a2, rfl, b2⟩ := shpW_str (h3 2 _ _ rfl rfl) (show (tab 9).kind = .string from rfl)
    obtain ⟨a3, rfl, b3⟩ := rd_TyD _ _ (h3 3 _ _ rfl rfl)
    obtain ⟨a4, rfl, b4⟩ := rd_PlaceD _ _ (h3 4 _ _ rfl rfl)
    obtain ⟨a5, rfl, b5⟩ := rd_RvD _ _ (h3 5 _ _ rfl rfl)
    obtain ⟨a6, rfl, b6⟩ := rd_OperD _ _ (h3 6 _ _ rfl rfl)
    obtain ⟨a7, rfl, b7, c7⟩ := shpW_slc stmtC (fun x => True) (h3 7 _ _ rfl rfl) (show (tab 32).kind = .slc 52 from rfl) (fun k _ l hl => rd_StmtD k l hl)
    obtain ⟨a8, rfl, b8, c8⟩ := shpW_slc stmtC (fun x => True) (h3 8 _ _ rfl rfl) (show (tab 32).kind = .slc 52 from rfl) (fun k _ l hl => rd_StmtD k l hl)
    obtain ⟨a9, rfl, b9, c9⟩ := shpW_slc armC (fun x => True) (h3 9 _ _ rfl rfl) (show (tab 50).kind = .slc 136 from rfl) (fun k _ l hl => rd_ArmD k l hl)
    exact ⟨⟨a0, a1, a2, a3, a4, a5, a6, a7, a8, a9⟩, by rw [h1]; simp [stmtC_eq], trivial⟩
termination_by k
decreasing_by all_goals omega
end

theorem rd_FnD (k : Nat) (xs : List V) (h : shpW tab k 35 xs) : ∃ x : FnD, xs = fnC x ∧ x.params.length ≤ 2199023255551 := by
  obtain ⟨yss, h1, h2, k', hk, h3⟩ := shpW_fields h (show (tab 35).kind = .str [(0, 9), (1, 33), (2, 32), (3, 3)] from rfl)
  match yss, h2 with
  | [y0, y1, y2, y3], _ =>
    obtain ⟨a0, rfl, b0⟩ := shpW_str (h3 0 _ _ rfl rfl) (show (tab 9).kind = .string from rfl)
    obtain ⟨a1, rfl, b1, c1⟩ := shpW_slc fieldC (fun x => True) (h3 1 _ _ rfl rfl) (show (tab 33).kind = .slc 100 from rfl) (fun k _ l hl => rd_FieldD k l hl)
    obtain ⟨a2, rfl, b2, c2⟩ := shpW_slc stmtC (fun x => True) (h3 2 _ _ rfl rfl) (show (tab 32).kind = .slc 52 from rfl) (fun k _ l hl => rd_StmtD k l hl)
    obtain ⟨a3, rfl, b3⟩ := shpW_int (h3 3 _ _ rfl rfl) (show (tab 3).kind = .int .i64 from rfl)
    exact ⟨⟨a0, a1, a2, a3⟩, by rw [h1]; simp [fnC_eq], (show a1.length ≤ 2199023255551 by have := c1; rw [show (tab 100).bytes = 64 from rfl] at this; unfold reachBytes at this; omega)⟩

theorem rd_SourceD (k : Nat) (xs : List V) (h : shpW tab k 26 xs) : ∃ x : SourceD, xs = sourceC x ∧ SrcOK x := by
  obtain ⟨yss, h1, h2, k', hk, h3⟩ := shpW_fields h (show (tab 26).kind = .str [(0, 22), (1, 23), (2, 24)] from rfl)
  match yss, h2 with
  | [y0, y1, y2], _ =>
    obtain ⟨a0, rfl, b0, c0⟩ := shpW_slc structC (fun x => x.fields.length ≤ 2199023255551) (h3 0 _ _ rfl rfl) (show (tab 22).kind = .slc 86 from rfl) (fun k _ l hl => rd_StructD k l hl)
    obtain ⟨a1, rfl, b1, c1⟩ := shpW_slc enumC (fun x => True) (h3 1 _ _ rfl rfl) (show (tab 23).kind = .slc 89 from rfl) (fun k _ l hl => rd_EnumD k l hl)
    obtain ⟨a2, rfl, b2, c2⟩ := shpW_slc fnC (fun x => x.params.length ≤ 2199023255551) (h3 2 _ _ rfl rfl) (show (tab 24).kind = .slc 35 from rfl) (fun k _ l hl => rd_FnD k l hl)
    exact ⟨⟨a0, a1, a2⟩, by rw [h1]; simp [sourceC_eq], ⟨b0, b2⟩⟩

theorem rd_LocalD (k : Nat) (xs : List V) (h : shpW tab k 138 xs) : ∃ x : LocalD, xs = localC x ∧ True := by
  obtain ⟨yss, h1, h2, k', hk, h3⟩ := shpW_fields h (show (tab 138).kind = .str [(0, 9), (1, 45)] from rfl)
  match yss, h2 with
  | [y0, y1], _ =>
    obtain ⟨a0, rfl, b0⟩ := shpW_str (h3 0 _ _ rfl rfl) (show (tab 9).kind = .string from rfl)
    obtain ⟨a1, rfl, b1⟩ := rd_TyD _ _ (h3 1 _ _ rfl rfl)
    exact ⟨⟨a0, a1⟩, by rw [h1]; simp [localC_eq], trivial⟩

theorem rd_SpotD (k : Nat) (xs : List V) (h : shpW tab k 65 xs) : ∃ x : SpotD, xs = spotC x ∧ True := by
  obtain ⟨yss, h1, h2, k', hk, h3⟩ := shpW_fields h (show (tab 65).kind = .str [(0, 3), (1, 63)] from rfl)
  match yss, h2 with
  | [y0, y1], _ =>
    obtain ⟨a0, rfl, b0⟩ := shpW_int (h3 0 _ _ rfl rfl) (show (tab 3).kind = .int .i64 from rfl)
    obtain ⟨a1, rfl, b1, c1⟩ := shpW_slc (fun z : Int => [V.i .i64 z]) (fun _ => True) (h3 1 _ _ rfl rfl) (show (tab 63).kind = .slc 3 from rfl) (fun k _ l hl => by obtain ⟨m, h, _⟩ := shpW_int hl (show (tab 3).kind = .int .i64 from rfl); exact ⟨m, h, trivial⟩)
    exact ⟨⟨a0, a1⟩, by rw [h1]; simp [spotC_eq], trivial⟩

theorem rd_UseD (k : Nat) (xs : List V) (h : shpW tab k 70 xs) : ∃ x : UseD, xs = useC x ∧ True := by
  obtain ⟨yss, h1, h2, k', hk, h3⟩ := shpW_fields h (show (tab 70).kind = .str [(0, 4), (1, 3), (2, 4), (3, 65)] from rfl)
  match yss, h2 with
  | [y0, y1, y2, y3], _ =>
    obtain ⟨a0, rfl⟩ := shpW_bool (h3 0 _ _ rfl rfl) (show (tab 4).kind = .bool from rfl)
    obtain ⟨a1, rfl, b1⟩ := shpW_int (h3 1 _ _ rfl rfl) (show (tab 3).kind = .int .i64 from rfl)
    obtain ⟨a2, rfl⟩ := shpW_bool (h3 2 _ _ rfl rfl) (show (tab 4).kind = .bool from rfl)
    obtain ⟨a3, rfl, b3⟩ := rd_SpotD _ _ (h3 3 _ _ rfl rfl)
    exact ⟨⟨a0, a1, a2, a3⟩, by rw [h1]; simp [useC_eq], trivial⟩

theorem rd_ValueD (k : Nat) (xs : List V) (h : shpW tab k 68 xs) : ∃ x : ValueD, xs = valueC x ∧ True := by
  obtain ⟨yss, h1, h2, k', hk, h3⟩ := shpW_fields h (show (tab 68).kind = .str [(0, 46), (1, 66), (2, 65), (4, 3), (5, 3)] from rfl)
  match yss, h2 with
  | [y0, y1, y2, y3, y4], _ =>
    obtain ⟨a0, rfl, b0⟩ := shpW_int (h3 0 _ _ rfl rfl) (show (tab 46).kind = .int .i64 from rfl)
    obtain ⟨a1, rfl, b1, c1⟩ := shpW_slc useC (fun x => True) (h3 1 _ _ rfl rfl) (show (tab 66).kind = .slc 70 from rfl) (fun k _ l hl => rd_UseD k l hl)
    obtain ⟨a2, rfl, b2⟩ := rd_SpotD _ _ (h3 2 _ _ rfl rfl)
    obtain ⟨a3, rfl, b3⟩ := shpW_int (h3 3 _ _ rfl rfl) (show (tab 3).kind = .int .i64 from rfl)
    obtain ⟨a4, rfl, b4⟩ := shpW_int (h3 4 _ _ rfl rfl) (show (tab 3).kind = .int .i64 from rfl)
    exact ⟨⟨a0, a1, a2, a3, a4⟩, by rw [h1]; simp [valueC_eq], trivial⟩

theorem rd_InD (k : Nat) (xs : List V) (h : shpW tab k 148 xs) : ∃ x : InD, xs = inC x ∧ True := by
  obtain ⟨yss, h1, h2, k', hk, h3⟩ := shpW_fields h (show (tab 148).kind = .str [(0, 146), (1, 3), (2, 65), (4, 68), (10, 70)] from rfl)
  match yss, h2 with
  | [y0, y1, y2, y3, y4], _ =>
    obtain ⟨a0, rfl, b0⟩ := shpW_int (h3 0 _ _ rfl rfl) (show (tab 146).kind = .int .i64 from rfl)
    obtain ⟨a1, rfl, b1⟩ := shpW_int (h3 1 _ _ rfl rfl) (show (tab 3).kind = .int .i64 from rfl)
    obtain ⟨a2, rfl, b2⟩ := rd_SpotD _ _ (h3 2 _ _ rfl rfl)
    obtain ⟨a3, rfl, b3⟩ := rd_ValueD _ _ (h3 3 _ _ rfl rfl)
    obtain ⟨a4, rfl, b4⟩ := rd_UseD _ _ (h3 4 _ _ rfl rfl)
    exact ⟨⟨a0, a1, a2, a3, a4⟩, by rw [h1]; simp [inC_eq], trivial⟩

theorem rd_TmD (k : Nat) (xs : List V) (h : shpW tab k 141 xs) : ∃ x : TmD, xs = tmC x ∧ True := by
  obtain ⟨yss, h1, h2, k', hk, h3⟩ := shpW_fields h (show (tab 141).kind = .str [(0, 139), (1, 3), (2, 65), (4, 68), (10, 70), (15, 63)] from rfl)
  match yss, h2 with
  | [y0, y1, y2, y3, y4, y5], _ =>
    obtain ⟨a0, rfl, b0⟩ := shpW_int (h3 0 _ _ rfl rfl) (show (tab 139).kind = .int .i64 from rfl)
    obtain ⟨a1, rfl, b1⟩ := shpW_int (h3 1 _ _ rfl rfl) (show (tab 3).kind = .int .i64 from rfl)
    obtain ⟨a2, rfl, b2⟩ := rd_SpotD _ _ (h3 2 _ _ rfl rfl)
    obtain ⟨a3, rfl, b3⟩ := rd_ValueD _ _ (h3 3 _ _ rfl rfl)
    obtain ⟨a4, rfl, b4⟩ := rd_UseD _ _ (h3 4 _ _ rfl rfl)
    obtain ⟨a5, rfl, b5, c5⟩ := shpW_slc (fun z : Int => [V.i .i64 z]) (fun _ => True) (h3 5 _ _ rfl rfl) (show (tab 63).kind = .slc 3 from rfl) (fun k _ l hl => by obtain ⟨m, h, _⟩ := shpW_int hl (show (tab 3).kind = .int .i64 from rfl); exact ⟨m, h, trivial⟩)
    exact ⟨⟨a0, a1, a2, a3, a4, a5⟩, by rw [h1]; simp [tmC_eq], trivial⟩

theorem rd_BlockD (k : Nat) (xs : List V) (h : shpW tab k 144 xs) : ∃ x : BlockD, xs = blockC x ∧ True := by
  obtain ⟨yss, h1, h2, k', hk, h3⟩ := shpW_fields h (show (tab 144).kind = .str [(0, 142), (1, 141)] from rfl)
  match yss, h2 with
  | [y0, y1], _ =>
    obtain ⟨a0, rfl, b0, c0⟩ := shpW_slc inC (fun x => True) (h3 0 _ _ rfl rfl) (show (tab 142).kind = .slc 148 from rfl) (fun k _ l hl => rd_InD k l hl)
    obtain ⟨a1, rfl, b1⟩ := rd_TmD _ _ (h3 1 _ _ rfl rfl)
    exact ⟨⟨a0, a1⟩, by rw [h1]; simp [blockC_eq], trivial⟩

theorem rd_BodyD (k : Nat) (xs : List V) (h : shpW tab k 60 xs) : ∃ x : BodyD, xs = bodyC x ∧ True := by
  obtain ⟨yss, h1, h2, k', hk, h3⟩ := shpW_fields h (show (tab 60).kind = .str [(0, 9), (1, 3), (2, 57), (3, 58)] from rfl)
  match yss, h2 with
  | [y0, y1, y2, y3], _ =>
    obtain ⟨a0, rfl, b0⟩ := shpW_str (h3 0 _ _ rfl rfl) (show (tab 9).kind = .string from rfl)
    obtain ⟨a1, rfl, b1⟩ := shpW_int (h3 1 _ _ rfl rfl) (show (tab 3).kind = .int .i64 from rfl)
    obtain ⟨a2, rfl, b2, c2⟩ := shpW_slc localC (fun x => True) (h3 2 _ _ rfl rfl) (show (tab 57).kind = .slc 138 from rfl) (fun k _ l hl => rd_LocalD k l hl)
    obtain ⟨a3, rfl, b3, c3⟩ := shpW_slc blockC (fun x => True) (h3 3 _ _ rfl rfl) (show (tab 58).kind = .slc 144 from rfl) (fun k _ l hl => rd_BlockD k l hl)
    exact ⟨⟨a0, a1, a2, a3⟩, by rw [h1]; simp [bodyC_eq], trivial⟩
end
end Go.Proofs.Tryz
end
section
namespace Go.Proofs.YtakfpmogpnoibaaGreatDoor
open Go.ChangeShapes Go.WideShapes Go.ChangeAt Go.RowKit Go.AM Go.Proofs.Tryz

theorem ownKnobNone : ownKnob Tryz.prog.godebug = none := by kernel_rfl
theorem laidOutAll : laidOutB Tryz.prog = true := by kernel_rfl
def readT : List TypeId := [3, 4, 9, 22, 23, 24, 26, 32, 33, 35, 36, 37, 39, 41, 42, 43, 45, 46, 47, 49, 50, 52, 57, 58, 60, 63, 65, 66, 68, 70, 79, 86, 87, 89, 92, 100, 136, 138, 139, 141, 142, 144, 146, 148]
theorem readT_closed : closedS tab readT = true := by decide +kernel

theorem gokOf {W : World} {L : List (String × DataW Unit)} (hL : L.drop 2 = [("internal/strconv.uint64pow10", Lib.tabData .u64 Lib.pow10Tab)])
    (hp : (L.all fun x => x.2.handleName?.isNone) = true) (h : laidMetH Tryz.prog L W) : GOK Tryz.prog W (fun _ => False) := by
  rw [MakeChecks.laidMetH_plain _ _ _ hp] at h
  obtain ⟨a, b, rfl⟩ : ∃ a b, L = [a, b, ("internal/strconv.uint64pow10", Lib.tabData .u64 Lib.pow10Tab)] := by
    match L, hL with
    | a :: b :: r, hL => exact ⟨a, b, by rw [show r = _ from hL]⟩
  have h1 := Lib.tabIs_of_head (g := 0) (t := 261) (e := 247) (n := 20) (by kernel_rfl) (by kernel_rfl) (by kernel_rfl) (by kernel_rfl) (by kernel_rfl) (by kernel_rfl) (laidMet.tail (laidMet.tail h))
  intro e he
  obtain rfl := List.mem_singleton.1 he
  refine ⟨h1, fun g hg => ⟨?_, not_false⟩⟩
  unfold Lib.TabIs World.var? at h1
  rw [hg] at h1
  simp only [Option.bind_some] at h1
  rcases Nat.lt_or_ge g W.heap.size with h' | h'
  · exact h'
  · rw [Array.getElem?_eq_none h'] at h1; cases h1
end Go.Proofs.YtakfpmogpnoibaaGreatDoor
end
section
namespace Go.Proofs.YtakfpmogpnoibaaGreatDoor
open Go.ChangeShapes Go.WideShapes Go.ChangeAt Go.RowKit Go.AM Go.Proofs.Tryz

set_option maxRecDepth 100000 in
theorem mirTypesLifted (HQ : ∀ (xs0 : List V) (xs1 : List V) (xs2 : List V) (xs3 : List V) (n0 : Nat) (n1 : Nat) (n2 : Nat) (n3 : Nat), shpW tab n0 26 xs0 → shpW tab n1 60 xs1 → shpW tab n2 65 xs2 → shpW tab n3 68 xs3 → QC Tryz.prog 9 [.agg xs0, .agg xs1, .agg xs2, .agg xs3] [] (.b true) []) (os : Os) (started : os.Started) (H : Type) (enc : TypeId × Value → H) :
    ReturnsInHanded {} Tryz.checked os 9 .any (fun w args => (Rows.mirTypesSpec.pre enc Tryz.prog Tryz.f9 Rows.mirTypesRow.domain false w args ∧ laidMetH Tryz.prog Rows.mirTypesRow.laid w) ∧ sizedMet enc Tryz.prog Tryz.f9 (OpenSpec.ofChange Rows.mirTypesSpec) false w args)
      (Rows.mirTypesSpec.post enc Tryz.prog Tryz.f9 false true false false) := by
  refine returnsInHanded_of_change_and (C := Tryz.checked) (X := fun w _ => laidMetH Tryz.prog Rows.mirTypesRow.laid w) (fun _ _ _ hh h => h.of_heap hh) ownKnobNone started (by kernel_rfl) Tryz.func9
    (ChangeSpec.witness_shaped (enc := enc) (C := Tryz.checked) (os := os) (X := fun w _ => laidMetH Tryz.prog Rows.mirTypesRow.laid w) false (World.laidAll Tryz.prog os Rows.mirTypesRow.laid) #[.agg #[.slice none 0 0, .slice none 0 0, .slice none 0 0], .agg #[.string ⟨#[]⟩, .int .i64 0, .slice none 0 0, .slice none 0 0], .agg #[.int .i64 0, .slice none 0 0], .agg #[.int .i64 0, .slice none 0 0, .int .i64 0, .slice none 0 0, .int .i64 0, .int .i64 0]] 8 (World.laidAll_os _ _ _)
      (World.shaped_of_ZipB (by kernel_rfl) (by kernel_rfl)) (by kernel_rfl) (by kernel_rfl) (by kernel_rfl)
      (by rw [MakeChecks.laidMetH_plain _ _ _ (by kernel_rfl)]; exact laidMet_laidAll _ (by kernel_rfl) (by kernel_rfl))) ?_
  intro W base args ds gs before hval0 hW _ hwt hL _
  have hval : ∀ (j : Nat) t v, Tryz.f9.params[j]? = some t → args[j]? = some v → Value.okWide Tryz.prog W .any base t v := hval0
  have hW' := hW
  obtain ⟨p, q, hA0, hV, rfl, _, _⟩ := hW
  have hA : DataW.TrodAll enc Tryz.prog W 0 (fun _ => true) true Tryz.f9.params.toList args.toList ds p := hA0
  rw [Tryz.params9] at hA hval
  have hw : ∀ x ∈ DataW.weightsEach Tryz.prog (Tryz.f9.params.toList ++ Rows.mirTypesSpec.plain.varTypes Tryz.prog) (ds ++ gs), x ≤ reachBytes := fun x hx => of_decide_eq_true (List.all_eq_true.1 hwt x hx)
  obtain ⟨v0, v1, v2, v3, d0, d1, d2, d3, p0, p1, p2, p3, rfl, rfl, rfl, h0, h1, h2, h3⟩ := trodAll_four hA
  obtain ⟨rfl, rfl⟩ := trodVars_none hV
  rw [Tryz.params9] at hw
  have hw0 : ∀ q ∈ d0.weights Tryz.prog 26, q ≤ reachBytes := fun q hq => hw q (DataW.weights_mem_each (j := 0) rfl rfl q hq)
  have hw1 : ∀ q ∈ d1.weights Tryz.prog 60, q ≤ reachBytes := fun q hq => hw q (DataW.weights_mem_each (j := 1) rfl rfl q hq)
  have hw2 : ∀ q ∈ d2.weights Tryz.prog 65, q ≤ reachBytes := fun q hq => hw q (DataW.weights_mem_each (j := 2) rfl rfl q hq)
  have hw3 : ∀ q ∈ d3.weights Tryz.prog 68, q ≤ reachBytes := fun q hq => hw q (DataW.weights_mem_each (j := 3) rfl rfl q hq)
  simp only [List.append_nil] at hW'
  have hlt : ∀ x ∈ p0 ++ p1 ++ p2 ++ p3, x.block < W.heap.size := fun x hx => by simpa using hW'.lt x (by simpa using hx)
  obtain ⟨xs0, ⟨n0, hs0⟩, hr0⟩ := arg_structW tabOK (T := tab) (t := 26) (S := readT) readT_closed rfl (by decide) (hval 0 26 v0 rfl rfl) h0 hw0
  obtain ⟨xs1, ⟨n1, hs1⟩, hr1⟩ := arg_structW tabOK (T := tab) (t := 60) (S := readT) readT_closed rfl (by decide) (hval 1 60 v1 rfl rfl) h1 hw1
  obtain ⟨xs2, ⟨n2, hs2⟩, hr2⟩ := arg_structW tabOK (T := tab) (t := 65) (S := readT) readT_closed rfl (by decide) (hval 2 65 v2 rfl rfl) h2 hw2
  obtain ⟨xs3, ⟨n3, hs3⟩, hr3⟩ := arg_structW tabOK (T := tab) (t := 68) (S := readT) readT_closed rfl (by decide) (hval 3 68 v3 rfl rfl) h3 hw3
  refine ((HQ xs0 xs1 xs2 xs3 n0 n1 n2 n3 hs0 hs1 hs2 hs3).truth (gokOf (L := Rows.mirTypesRow.laid) (by kernel_rfl) (by kernel_rfl) hL) (vs := #[v0, v1, v2, v3]) (W := W) rfl (fun ok hok D j x u hx hu => ?_)).mono fun e W' ⟨he, hb⟩ => ?_
  · match j with
    | 0 =>
      simp only [List.getElem?_cons_succ, List.getElem?_cons_zero, Option.some.injEq] at hx
      subst hx
      obtain rfl : v0 = u := by simpa using hu
      exact hr0 ok hok D
    | 1 =>
      simp only [List.getElem?_cons_succ, List.getElem?_cons_zero, Option.some.injEq] at hx
      subst hx
      obtain rfl : v1 = u := by simpa using hu
      exact hr1 ok hok D
    | 2 =>
      simp only [List.getElem?_cons_succ, List.getElem?_cons_zero, Option.some.injEq] at hx
      subst hx
      obtain rfl : v2 = u := by simpa using hu
      exact hr2 ok hok D
    | 3 =>
      simp only [List.getElem?_cons_succ, List.getElem?_cons_zero, Option.some.injEq] at hx
      subst hx
      obtain rfl : v3 = u := by simpa using hu
      exact hr3 ok hok D
    | j + 4 => simp at hx
  · subst he
    refine ⟨_, rfl, _, _, _, [], p0 ++ p1 ++ p2 ++ p3, [], by simpa using hW', ?_, ?_, ?_, hb.frame _, fun h => by cases h⟩
    · exact trodAll_mk1 (shut_bool Tryz.underlying4 true)
    · have hpl : p0 ++ (p1 ++ (p2 ++ (p3))) = p0 ++ p1 ++ p2 ++ p3 := by simp
      rw [← hpl]
      exact trodAll_mk4 (Below.trod laidOutAll (by kernel_rfl) (of_decide_eq_true (by kernel_rfl)) h0 hb (fun x hx => hlt x (by simp [hx]))) (Below.trod laidOutAll (by kernel_rfl) (of_decide_eq_true (by kernel_rfl)) h1 hb (fun x hx => hlt x (by simp [hx]))) (Below.trod laidOutAll (by kernel_rfl) (of_decide_eq_true (by kernel_rfl)) h2 hb (fun x hx => hlt x (by simp [hx]))) (Below.trod laidOutAll (by kernel_rfl) (of_decide_eq_true (by kernel_rfl)) h3 hb (fun x hx => hlt x (by simp [hx])))
    · rfl

theorem mirTypesHolds (HQ : ∀ (xs0 : List V) (xs1 : List V) (xs2 : List V) (xs3 : List V) (n0 : Nat) (n1 : Nat) (n2 : Nat) (n3 : Nat), shpW tab n0 26 xs0 → shpW tab n1 60 xs1 → shpW tab n2 65 xs2 → shpW tab n3 68 xs3 → QC Tryz.prog 9 [.agg xs0, .agg xs1, .agg xs2, .agg xs3] [] (.b true) []) : Rows.MirTypesSaid :=
  OpenClaim.holds_of_wide 9 Tryz.f9 rfl rfl rfl rfl rfl rfl rfl ⟨rfl, rfl, rfl, rfl, rfl⟩ rfl rfl rfl rfl rfl (by kernel_rfl) Tryz.func9 (by kernel_rfl)
    (of_decide_eq_true (by kernel_rfl)) (by unfold Func.isWrapper; rw [if_neg (by decide +kernel)]; exact ⟨rfl, rfl⟩)
    (fun os started H enc _ => mirTypesLifted HQ os started H enc)

theorem mirTypesCard (HQ : ∀ (xs0 : List V) (xs1 : List V) (xs2 : List V) (xs3 : List V) (n0 : Nat) (n1 : Nat) (n2 : Nat) (n3 : Nat), shpW tab n0 26 xs0 → shpW tab n1 60 xs1 → shpW tab n2 65 xs2 → shpW tab n3 68 xs3 → QC Tryz.prog 9 [.agg xs0, .agg xs1, .agg xs2, .agg xs3] [] (.b true) []) : Rows.MirTypesCardSaid :=
  Claim7.holds_tied_plain_at .later [] [.data, .data, .data] true (true, "5fb048d045625182b10262516d9c4193a6b1e98e8e618b184d271e5fcbaa7853") false (mirTypesHolds HQ) (fun _ h => by cases h) (by kernel_rfl) (fun _ h => by cases h) mirTypes_row_tie rfl ⟨rfl, rfl⟩ (by kernel_rfl) rfl
    (fun f fn hf hfn => by
      obtain rfl : f = 9 := Option.some.inj ((show Tryz.prog.funcNamed "cocoon/cocoonlaw09.MirTypes" = some 9 by kernel_rfl).symm.trans hf) |>.symm
      obtain rfl : fn = Tryz.f9 := (Option.some.inj (Tryz.func9.symm.trans hfn)).symm
      exact ⟨by kernel_rfl, fun j t ht => by
        rw [Tryz.params9] at ht
        have hm : t ∈ [26, 60, 65, 68] := by simpa using Array.mem_of_getElem? ht
        have hall : ([26, 60, 65, 68].all fun u => !Tryz.prog.wantsStandIn u) = true := by kernel_rfl
        exact (show Tryz.prog.wantsStandIn t = false by simpa using List.all_eq_true.1 hall t hm)⟩)
    (by kernel_rfl)

theorem mirTypes_card : Rows.MirTypesCardSaid := mirTypesCard fun xs0 xs1 xs2 xs3 n0 n1 n2 n3 hs0 hs1 hs2 hs3 => by
  obtain ⟨s, rfl, hs⟩ := rd_SourceD n0 xs0 hs0
  obtain ⟨b, rfl, _⟩ := rd_BodyD n1 xs1 hs1
  obtain ⟨x, rfl, _⟩ := rd_SpotD n2 xs2 hs2
  obtain ⟨v, rfl, _⟩ := rd_ValueD n3 xs3 hs3
  have h := w_lMirTypes s b x v hs
  rw [lMirTypes_true] at h
  simpa [sourceC_eq, bodyC_eq, spotC_eq, valueC_eq] using h
end Go.Proofs.YtakfpmogpnoibaaGreatDoor
end
