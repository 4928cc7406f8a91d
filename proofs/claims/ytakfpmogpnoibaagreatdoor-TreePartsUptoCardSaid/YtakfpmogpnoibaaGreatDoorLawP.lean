/- A source's text is that of its structs, its enums, and its coroutines, one behind the other, each by itself: TreeParts, tied, where what it reads is of bulk at most 1048576. -/
import Derived.Test.YtakfpmogpnoibaaGreatDoorTie
import Derived.Test.YtakfpmogpnoibaaGreatDoorCards
import Derived.ProofKit
import Derived.OpenShut
import Derived.LaidMore
import Derived.Lay
import Derived.SevenTiedAt
import Derived.Stop.Joined
import Derived.Stop.LaidErr
import Derived.Test.YtakfpmogpnoibaaGreatDoorTxtC
import Derived.Test.YtakfpmogpnoibaaGreatDoorValU
import Derived.Test.YtakfpmogpnoibaaGreatDoorRefA
import Derived.Test.YtakfpmogpnoibaaGreatDoorBldA
import Derived.Test.YtakfpmogpnoibaaGreatDoorMachD
set_option linter.unusedVariables false
set_option linter.unusedSimpArgs false
set_option linter.constructorNameAsVariable false
section
namespace Go.Proofs.Tryz
open Go Go.AM
attribute [local simp] wpG_op wpG_nil contG_some wpG_guard guardG_v guardG_o guardG_tup gval pureOp stepG_if isPick pickG_pick pickB_b pickOK isCall step_move step_assign step_alloc step_box boxV_some step_load step_store step_binOp step_unOp step_fieldAddr faV step_indexAddr ixA_slc ixA_arr step_extract extV_tup step_nilCheck ncV_ptr ncV_rp ncV_fn ncV_mp step_build buildV step_buildSlice bsV step_index ixV_arr ixV_str step_append apB step_makeSlice msV_i step_makeFunc over step_len step_makeMap mmV step_mapUpdate step_insert muA_map muB_mp step_lookup lkA_map lkB_mp step_slice slcV_s slcV_sl slcV_ro cutB_some slObV_arr bound_none bound_some bndV_i lenB_str lenB_ro lenB_sl lenB_nil lenB_z ld_ptr ld_rp offV_ptr offV_rp idxV_ro idxV_sl unV_not unV_neg binV_int binV_str binV_eqlb binV_neqb intOp strOp St.put updL setOb St.ev toV St.lk cellsOf AM.valOf TK.agg stv fillV places TI.zero condT_true condT_false finS resL resSlot packV ren ren1 ren0 Value.cells builtinV appendV elemsOf keepT room_of wrap_in toIdx passed Function.comp_def take_len_map lenV touchOf hid tab1 tab2 tab3 tab4 tab5 tab6 tab7 tab8 tab9 tab20 tab22 tab23 tab24 tab26 tab32 tab33 tab35 tab36 tab37 tab39 tab41 tab42 tab43 tab45 tab46 tab47 tab49 tab50 tab52 tab74 tab79 tab83 tab86 tab87 tab89 tab92 tab100 tab101 tab102 tab103 tab105 tab107 tab108 tab113 tab114 tab116 tab117 tab118 tab122 tab123 tab125 tab127 tab130 tab132 tab136 tab173 tab175 tab178 tab179 tab180 tab182 tab189 tab215 tab219 tab220 tab224 tab225 tab241 tab244 tab247 tab253 tab261 tab262 tab265 tab266 armC_eq blockC_eq bodyC_eq enumC_eq fieldC_eq fnC_eq inC_eq localC_eq mirBodyC_eq operC_eq placeC_eq rvC_eq sourceC_eq spotC_eq stepC_eq stmtC_eq structC_eq tmC_eq tyC_eq useC_eq valueC_eq variantC_eq binV_eqls binV_neqs cutL_nil cutL_junk cutL_cons ren_arr ren_gone ren_unborn ren_var ren_row step_convert cvV_i cvV_sl cvV_s cvK_slc cvE_u8 bytesOf bor1 bor2 bor3 bor4
set_option linter.unusedSimpArgs false
set_option linter.unusedVariables false
set_option maxRecDepth 10000
set_option maxHeartbeats 4000000
noncomputable section
theorem sub_bk {A : Type} (e : A → List V) : ∀ (l : List A) (i n : Nat), bkR (((l.drop i).take n).map e) ≤ bkR (l.map e)
 | [], i, n => by simp [bkR]
 | x :: l, 0, 0 => by simp [bkR]
 | x :: l, 0, n + 1 => by
  have := sub_bk e l 0 n
  simp only [List.drop_zero] at this
  simp only [List.drop_zero, List.take_succ_cons, List.map_cons, bkR]
  omega
 | x :: l, i + 1, n => by
  have := sub_bk e l i n
  simp only [List.drop_succ_cons, List.map_cons, bkR]
  omega
theorem sub_wf {A : Type} (e : A → List V) (l : List A) (i n : Nat) (h : wfR (l.map e)) : wfR (((l.drop i).take n).map e) := by
 rw [wfR_map] at h ⊢
 exact fun x hx => h x (List.mem_of_mem_drop (List.mem_of_mem_take hx))
theorem part_s (p : SourceD) (hw : wfL (sourceC p)) (hz : bkL (sourceC p) ≤ 1050000) (i n : Nat) : wfL (sourceC ⟨(p.structs.drop i).take n, [], []⟩) ∧ bkL (sourceC ⟨(p.structs.drop i).take n, [], []⟩) ≤ 1050000 := by
 have h1 := sub_bk structC p.structs i n
 simp only [sourceC_eq, wfL, wfV, bkL, bkV] at hw hz ⊢
 exact ⟨⟨sub_wf _ _ _ _ hw.1, trivial, trivial, trivial⟩, by simp only [List.map_nil, bkR]; omega⟩
theorem part_e (p : SourceD) (hw : wfL (sourceC p)) (hz : bkL (sourceC p) ≤ 1050000) (i n : Nat) : wfL (sourceC ⟨[], (p.enums.drop i).take n, []⟩) ∧ bkL (sourceC ⟨[], (p.enums.drop i).take n, []⟩) ≤ 1050000 := by
 have h1 := sub_bk enumC p.enums i n
 simp only [sourceC_eq, wfL, wfV, bkL, bkV] at hw hz ⊢
 exact ⟨⟨trivial, sub_wf _ _ _ _ hw.2.1, trivial, trivial⟩, by simp only [List.map_nil, bkR]; omega⟩
theorem part_f (p : SourceD) (hw : wfL (sourceC p)) (hz : bkL (sourceC p) ≤ 1050000) (i n : Nat) : wfL (sourceC ⟨[], [], (p.fns.drop i).take n⟩) ∧ bkL (sourceC ⟨[], [], (p.fns.drop i).take n⟩) ≤ 1050000 := by
 have h1 := sub_bk fnC p.fns i n
 simp only [sourceC_eq, wfL, wfV, bkL, bkV] at hw hz ⊢
 exact ⟨⟨trivial, trivial, sub_wf _ _ _ _ hw.2.2.1, trivial⟩, by simp only [List.map_nil, bkR]; omega⟩
theorem textS_le (s : SourceD) (hz : bkL (sourceC s) ≤ 1050000) : (textS s).length ≤ 3150000000000 := by
 have := textS_len s hz
 omega
theorem src_len (p : SourceD) (hz : bkL (sourceC p) ≤ 1050000) : p.structs.length + p.enums.length + p.fns.length ≤ 1050000 := by
 have h1 := len_bkR structC p.structs fun x _ => by simp only [structC_eq, bkL, bkV]; omega
 have h2 := len_bkR enumC p.enums fun x _ => by simp only [enumC_eq, bkL, bkV]; omega
 have h3 := len_bkR fnC p.fns fun x _ => by simp only [fnC_eq, bkL, bkV]; omega
 simp only [sourceC_eq, bkL, bkV] at hz
 omega

def lTreeParts_l10 (p0 : SourceD) : List StructD → Nat → (List UInt8) → Bool → (List UInt8) × Bool
 | [], _, a10_0, a10_1 => (a10_0, a10_1)
 | _ :: xs10, j10, a10_0, a10_1 => lTreeParts_l10 p0 xs10 (j10 + 1) (a10_0 ++ (textS (SourceD.mk ((p0.structs.drop j10).take (((IntKind.i64.wrap ((j10 : Int) + 1))).toNat - j10)) ([]) ([])))) ((tValid05 (SourceD.mk ((p0.structs.drop j10).take (((IntKind.i64.wrap ((j10 : Int) + 1))).toNat - j10)) ([]) ([]))) && a10_1)
def lTreeParts_l16 (p0 : SourceD) : List EnumD → Nat → (List UInt8) → Bool → (List UInt8) × Bool
 | [], _, a16_0, a16_1 => (a16_0, a16_1)
 | _ :: xs16, j16, a16_0, a16_1 => lTreeParts_l16 p0 xs16 (j16 + 1) (a16_0 ++ (textS (SourceD.mk ([]) ((p0.enums.drop j16).take (((IntKind.i64.wrap ((j16 : Int) + 1))).toNat - j16)) ([])))) ((tValid05 (SourceD.mk ([]) ((p0.enums.drop j16).take (((IntKind.i64.wrap ((j16 : Int) + 1))).toNat - j16)) ([]))) && a16_1)
def lTreeParts_l22 (p0 : SourceD) : List FnD → Nat → (List UInt8) → Bool → (List UInt8) × Bool
 | [], _, a22_0, a22_1 => (a22_0, a22_1)
 | _ :: xs22, j22, a22_0, a22_1 => lTreeParts_l22 p0 xs22 (j22 + 1) (a22_0 ++ (textS (SourceD.mk ([]) ([]) ((p0.fns.drop j22).take (((IntKind.i64.wrap ((j22 : Int) + 1))).toNat - j22))))) ((tValid05 (SourceD.mk ([]) ([]) ((p0.fns.drop j22).take (((IntKind.i64.wrap ((j22 : Int) + 1))).toNat - j22)))) && a22_1)
def lTreeParts (p0 : SourceD) : Bool :=
 (if (zLarge p0 400) = true then true else (bnd (lTreeParts_l10 p0 p0.structs 0 ([] : List UInt8) true) fun (v10 : (List UInt8) × Bool) => (bnd (lTreeParts_l16 p0 p0.enums 0 v10.1 v10.2) fun (v16 : (List UInt8) × Bool) => (bnd (lTreeParts_l22 p0 p0.fns 0 v16.1 v16.2) fun (v22 : (List UInt8) × Bool) => ((decide ((textS p0) = v22.1)) && ((tValid05 p0) == v22.2))))))
set_option maxHeartbeats 40000000 in
theorem w_lTreeParts (p0 : SourceD) (hw : wfL (sourceC p0)) (hz : bkL (sourceC p0) ≤ 1050000) : QC prog 5 [.agg [.ro 4 (p0.structs.map structC), .ro 3 (p0.enums.map enumC), .ro 4 (p0.fns.map fnC)]] [] (.b (lTreeParts p0)) [] := by
 refine QC.of_body tabOK func5 rfl (by kernel_rfl) ?_
 simp only [f5]
 generalize e : lTreeParts p0 = R
 unfold lTreeParts at e
 have hn := src_len p0 hz
 refine EV.seq (EV.regionG tabOK ?_)
 simp (maxSteps := 2000000) -implicitDefEqProofs
 refine EV.seq (EV.regionG tabOK ?_)
 simp (maxSteps := 2000000) -implicitDefEqProofs
 refine callG_fun (w_works05) ?_ ?_
 ·simp
 simp (maxSteps := 2000000) -implicitDefEqProofs
 refine EV.seq (EV.seq (EV.regionG tabOK ?_))
 simp (maxSteps := 2000000) -implicitDefEqProofs
 refine EV.condT ?_
 simp -implicitDefEqProofs
 refine EV.skip ?_
 simp only [thenK_normal, blockK_normal, scopeK_normal]
 refine EV.seq (EV.regionG tabOK ?_)
 simp (maxSteps := 2000000) -implicitDefEqProofs
 refine callG_fun (w_zLarge p0 400) ?_ ?_
 ·simp
 simp (maxSteps := 2000000) -implicitDefEqProofs
 refine EV.seq (EV.seq (EV.regionG tabOK ?_))
 simp (maxSteps := 2000000) -implicitDefEqProofs
 refine EV.condT ?_
 simp -implicitDefEqProofs
 refine condT_intro (fun k1 => ?_) (fun k1 => ?_)
 ·try simp at k1
  obtain ⟨f1, e⟩ := pos_on2 e (by first | simpa using k1 | grind)
  try simp at f1
  refine EV.seq (EV.regionG tabOK ?_)
  simp (maxSteps := 2000000) -implicitDefEqProofs
  refine EV.ret ?_
  simp only [thenK_ret, blockK_ret, scopeK_ret, bodyK_ret]
  subst e
  refine Fin.pure0 ?_
  first | (simp; done) | (simp <;> grind)
 ·try simp at k1
  obtain ⟨f1, e⟩ := neg_on2 e (by first | simpa using k1 | grind)
  try simp at f1
  refine EV.skip ?_
  simp only [thenK_normal, blockK_normal, scopeK_normal]
  refine EV.seq (EV.regionG tabOK ?_)
  simp (maxSteps := 2000000) -implicitDefEqProofs
  refine EV.seq (EV.regionG tabOK ?_)
  simp (maxSteps := 2000000) -implicitDefEqProofs
  refine EV.seq (EV.seq (EV.regionG tabOK ?_))
  simp (maxSteps := 2000000) -implicitDefEqProofs
  obtain ⟨z10, e10, e⟩ := bnd_split e
  refine EV.nrm (fun v : { v : ((List UInt8) × Bool) × (Unit) // z10 = v.1 ∧ (fun (v10 : (List UInt8) × Bool) => (v10.1.length : Int) ≤ (p0.structs.length : Int) * 3150000000000) v.1 } => (fun (v10 : (List UInt8) × Bool) (g10 : Unit) => (⟨[J, .ptr 0 0 0 0, J, .b true, J, .s v10.1, .b v10.2, J, J, J, J, J, J, J, J, J, J, J, J, J, J, J, J, J, J, J, J, J, J, J, J, J, J, J, J, J, J, J, J, J, J, J, J, J, J, J, J, J, J, J, J, J, J, J, J, J, J, J, J, J, J, J, J, J, J, J, J, J, J, J, J, J, J, J, J, J, J, J, J, J, J, J, J, J, J, J, J, J, J, J, J, J, J, J, J, J, J, J, J, J, J, J], [.arr 0 3 [[.ro 4 (p0.structs.map structC), .ro 3 (p0.enums.map enumC), .ro 4 (p0.fns.map fnC)]]]⟩ : St)) v.1.1 v.1.2) ?_ ?_
  ·skip
   refine EV.block ?_
   refine EV.loopB (fun x : { x : Nat × (List UInt8) × Bool // x.1 ≤ p0.structs.length ∧ lTreeParts_l10 p0 (p0.structs.drop x.1) x.1 x.2.1 x.2.2 = z10 ∧ (fun (j10 : Nat) (a10_0 : List UInt8) (a10_1 : Bool) => (a10_0.length : Int) ≤ (j10 : Int) * 3150000000000) x.1 x.2.1 x.2.2 } => (fun (j10 : Nat) (a10_0 : List UInt8) (a10_1 : Bool) => (⟨[J, .ptr 0 0 0 0, J, .b true, J, .s a10_0, .b a10_1, .i .i64 (j10 : Int), J, J, J, J, J, J, J, J, J, J, J, J, J, J, J, J, J, J, J, J, J, J, J, J, J, J, J, J, J, J, J, J, J, J, J, J, J, J, J, J, J, J, J, J, J, J, J, J, J, J, J, J, J, J, J, J, J, J, J, J, J, J, J, J, J, J, J, J, J, J, J, J, J, J, J, J, J, J, J, J, J, J, J, J, J, J, J, J, J, J, J, J, J, J], [.arr 0 3 [[.ro 4 (p0.structs.map structC), .ro 3 (p0.enums.map enumC), .ro 4 (p0.fns.map fnC)]]]⟩ : St)) x.1.1 x.1.2.1 x.1.2.2) (fun x => p0.structs.length - x.1.1) ⟨(0, ([] : List UInt8), true), Nat.zero_le _, e10, by ((try dsimp only); (try simp only [List.drop_zero, List.length_append, List.length_cons, List.length_nil]); omega)⟩ ?_ ?_
   ·skip
    try dsimp only
    try dsimp only
    refine Sub.cutF 1 (by simp) ?_ ?_ <;> simp [List.range_succ, toIdx_range, passed]
   rintro ⟨⟨j10, a10_0, a10_1⟩, hi10, e10, q10⟩
   simp only at hi10 e10 ⊢
   try dsimp only at q10
   refine EV.seq (EV.seq (EV.regionG tabOK ?_))
   simp (maxSteps := 2000000) -implicitDefEqProofs
   refine EV.room 22 (by rfl) (fun mj10 => ?_)
   simp at mj10
   refine EV.condT ?_
   simp -implicitDefEqProofs
   refine condT_intro (fun k2 => ?_) (fun k2 => ?_)
   ·try simp at k2
    have u2 : j10 < p0.structs.length := by omega
    obtain ⟨x10, hx10⟩ : ∃ z, p0.structs[j10] = z := ⟨_, rfl⟩
    have mx10 : x10 ∈ p0.structs := by rw [← hx10]; exact List.getElem_mem _
    have wz10 : IntKind.i64.wrap ((j10 : Int) + 1) = (j10 : Int) + 1 := wrap_in _ (by omega) (by omega)
    rw [List.drop_eq_getElem_cons u2, hx10, lTreeParts_l10] at e10
    refine EV.skip ?_
    simp only [thenK_normal, blockK_normal, scopeK_normal]
    refine EV.seq (EV.block (EV.seq ?_))
    have wp10 : (0 : Int) ≤ IntKind.i64.wrap ((j10 : Int) + 1) := by omega
    have wt10 : (j10 : Int) ≤ ((IntKind.i64.wrap ((j10 : Int) + 1)).toNat : Int) := by omega
    have wu10 : j10 ≤ (IntKind.i64.wrap ((j10 : Int) + 1)).toNat := by omega
    have sb3 : 0 ≤ (j10 : Int) ∧ (j10 : Int) ≤ (IntKind.i64.wrap ((j10 : Int) + 1)) ∧ (IntKind.i64.wrap ((j10 : Int) + 1)) ≤ (p0.structs.length : Int) := by omega
    obtain ⟨s1_3, s2_3, s3_3⟩ := sb3
    have s4_3 : ((IntKind.i64.wrap ((j10 : Int) + 1))).toNat ≤ p0.structs.length := by omega
    refine EV.regionG tabOK ?_
    simp (maxSteps := 2000000) -implicitDefEqProofs [k2, u2, hx10, wp10, wt10, wu10, s1_3, s2_3, s3_3, s4_3]
    refine EV.seq ?_
    have := textS_le (SourceD.mk ((p0.structs.drop j10).take (((IntKind.i64.wrap ((j10 : Int) + 1))).toNat - j10)) ([]) ([])) (by first | exact (part_s p0 hw hz _ _).2 | exact (part_e p0 hw hz _ _).2 | exact (part_f p0 hw hz _ _).2 | exact hz)
    have ct4 : (a10_0).length + ((textS (SourceD.mk ((p0.structs.drop j10).take (((IntKind.i64.wrap ((j10 : Int) + 1))).toNat - j10)) ([]) ([])))).length ≤ 9223372036854775807 := by ((try dsimp only); (try simp only [List.drop_zero, List.length_append, List.length_cons, List.length_nil]); omega)
    try simp at ct4
    refine EV.regionG tabOK ?_
    simp (maxSteps := 2000000) -implicitDefEqProofs [k2, u2, hx10, wp10, wt10, wu10, s1_3, s2_3, s3_3, s4_3, ct4]
    refine callG_data [] (w_tText (SourceD.mk ((p0.structs.drop j10).take (((IntKind.i64.wrap ((j10 : Int) + 1))).toNat - j10)) ([]) ([])) (by first | exact (part_s p0 hw hz _ _).1 | exact (part_e p0 hw hz _ _).1 | exact (part_f p0 hw hz _ _).1 | exact hw) (by first | exact (part_s p0 hw hz _ _).2 | exact (part_e p0 hw hz _ _).2 | exact (part_f p0 hw hz _ _).2 | exact hz)) ?_ ?_ ?_
    ·simp [allP, allR, c0, ld1, ld0, cvOb, Pu, take_len_map, List.getD, List.range_succ]
    ·first | trivial | simp [nr, nr1, nr0]
    simp (maxSteps := 2000000) -implicitDefEqProofs [k2, u2, hx10, wp10, wt10, wu10, s1_3, s2_3, s3_3, s4_3, ct4]
    refine EV.regionG tabOK ?_
    simp (maxSteps := 2000000) -implicitDefEqProofs +contextual [k2, u2, hx10, wp10, wt10, wu10, s1_3, s2_3, s3_3, s4_3, ct4]
    refine callG_data [] (w_tValid05 (SourceD.mk ((p0.structs.drop j10).take (((IntKind.i64.wrap ((j10 : Int) + 1))).toNat - j10)) ([]) ([]))) ?_ ?_ ?_
    ·simp [allP, allR, c0, ld1, ld0, cvOb, Pu, take_len_map, List.getD, List.range_succ]
    ·first | trivial | simp [nr, nr1, nr0]
    simp (maxSteps := 2000000) -implicitDefEqProofs +contextual [k2, u2, hx10, wp10, wt10, wu10, s1_3, s2_3, s3_3, s4_3, ct4]
    refine EV.regionG tabOK ?_
    simp (maxSteps := 2000000) -implicitDefEqProofs [k2, u2, hx10, wp10, wt10, wu10, s1_3, s2_3, s3_3, s4_3, ct4]
    have w10 : IntKind.i64.wrap ((j10 : Int) + 1) = (j10 : Int) + 1 := wrap_in _ (by omega) (by omega)
    refine ⟨⟨(j10 + 1, (a10_0 ++ (textS (SourceD.mk ((p0.structs.drop j10).take (((IntKind.i64.wrap ((j10 : Int) + 1))).toNat - j10)) ([]) ([])))), ((tValid05 (SourceD.mk ((p0.structs.drop j10).take (((IntKind.i64.wrap ((j10 : Int) + 1))).toNat - j10)) ([]) ([]))) && a10_1)), by omega, e10, by ((try dsimp only); (try simp only [List.drop_zero, List.length_append, List.length_cons, List.length_nil]); omega)⟩, by dsimp only; omega, ?_⟩
    try dsimp only
    refine Sub.cutF 1 (by simp) ?_ ?_ <;> simp [List.range_succ, toIdx_range, passed, k2, u2, hx10, wp10, wt10, wu10, ct4, w10]
   try simp at k2
   have d2 : p0.structs.drop j10 = [] := List.drop_eq_nil_of_le (by omega)
   rw [d2, lTreeParts_l10] at e10
   refine EV.exit ?_
   simp -implicitDefEqProofs
   refine ⟨⟨((a10_0, a10_1), ()), e10.symm, by ((try dsimp only); (try simp only [List.drop_zero, List.length_append, List.length_cons, List.length_nil]); omega)⟩, ?_⟩
   try dsimp only
   refine Sub.cutF 1 (by simp) ?_ ?_ <;> simp [List.range_succ, toIdx_range, passed]
  ·skip
   rintro ⟨⟨v10, g10⟩, e10, p10⟩
   simp only [thenK_normal, blockK_normal, scopeK_normal, bodyK_normal]
   try dsimp only at p10
   replace e := bnd_on e e10
   try dsimp only at e
   refine EV.seq (EV.seq (EV.regionG tabOK ?_))
   simp (maxSteps := 2000000) -implicitDefEqProofs
   obtain ⟨z16, e16, e⟩ := bnd_split e
   refine EV.nrm (fun v : { v : ((List UInt8) × Bool) × (Unit) // z16 = v.1 ∧ (fun (v16 : (List UInt8) × Bool) => (v16.1.length : Int) ≤ ((p0.structs.length : Int) + (p0.enums.length : Int)) * 3150000000000) v.1 } => (fun (v16 : (List UInt8) × Bool) (g16 : Unit) => (⟨[J, .ptr 0 0 0 0, J, .b true, J, .s v16.1, .b v16.2, J, J, J, J, J, J, J, J, J, J, J, J, J, J, J, J, J, J, J, J, J, J, J, J, J, J, J, J, J, J, J, J, J, J, J, J, J, J, J, J, J, J, J, J, J, J, J, J, J, J, J, J, J, J, J, J, J, J, J, J, J, J, J, J, J, J, J, J, J, J, J, J, J, J, J, J, J, J, J, J, J, J, J, J, J, J, J, J, J, J, J, J, J, J, J], [.arr 0 3 [[.ro 4 (p0.structs.map structC), .ro 3 (p0.enums.map enumC), .ro 4 (p0.fns.map fnC)]]]⟩ : St)) v.1.1 v.1.2) ?_ ?_
   ·skip
    refine EV.block ?_
    refine EV.loopB (fun x : { x : Nat × (List UInt8) × Bool // x.1 ≤ p0.enums.length ∧ lTreeParts_l16 p0 (p0.enums.drop x.1) x.1 x.2.1 x.2.2 = z16 ∧ (fun (j16 : Nat) (a16_0 : List UInt8) (a16_1 : Bool) => (a16_0.length : Int) ≤ ((p0.structs.length : Int) + (j16 : Int)) * 3150000000000) x.1 x.2.1 x.2.2 } => (fun (j16 : Nat) (a16_0 : List UInt8) (a16_1 : Bool) => (⟨[J, .ptr 0 0 0 0, J, .b true, J, .s a16_0, .b a16_1, J, J, .i .i64 (j16 : Int), J, J, J, J, J, J, J, J, J, J, J, J, J, J, J, J, J, J, J, J, J, J, J, J, J, J, J, J, J, J, J, J, J, J, J, J, J, J, J, J, J, J, J, J, J, J, J, J, J, J, J, J, J, J, J, J, J, J, J, J, J, J, J, J, J, J, J, J, J, J, J, J, J, J, J, J, J, J, J, J, J, J, J, J, J, J, J, J, J, J, J, J], [.arr 0 3 [[.ro 4 (p0.structs.map structC), .ro 3 (p0.enums.map enumC), .ro 4 (p0.fns.map fnC)]]]⟩ : St)) x.1.1 x.1.2.1 x.1.2.2) (fun x => p0.enums.length - x.1.1) ⟨(0, v10.1, v10.2), Nat.zero_le _, e16, by ((try dsimp only); (try simp only [List.drop_zero, List.length_append, List.length_cons, List.length_nil]); omega)⟩ ?_ ?_
    ·skip
     try dsimp only
     try dsimp only
     refine Sub.cutF 1 (by simp) ?_ ?_ <;> simp [List.range_succ, toIdx_range, passed]
    rintro ⟨⟨j16, a16_0, a16_1⟩, hi16, e16, q16⟩
    simp only at hi16 e16 ⊢
    try dsimp only at q16
    refine EV.seq (EV.seq (EV.regionG tabOK ?_))
    simp (maxSteps := 2000000) -implicitDefEqProofs
    refine EV.room 45 (by rfl) (fun mj16 => ?_)
    simp at mj16
    refine EV.condT ?_
    simp -implicitDefEqProofs
    refine condT_intro (fun k5 => ?_) (fun k5 => ?_)
    ·try simp at k5
     have u5 : j16 < p0.enums.length := by omega
     obtain ⟨x16, hx16⟩ : ∃ z, p0.enums[j16] = z := ⟨_, rfl⟩
     have mx16 : x16 ∈ p0.enums := by rw [← hx16]; exact List.getElem_mem _
     have wz16 : IntKind.i64.wrap ((j16 : Int) + 1) = (j16 : Int) + 1 := wrap_in _ (by omega) (by omega)
     rw [List.drop_eq_getElem_cons u5, hx16, lTreeParts_l16] at e16
     refine EV.skip ?_
     simp only [thenK_normal, blockK_normal, scopeK_normal]
     refine EV.seq (EV.block (EV.seq ?_))
     have wp16 : (0 : Int) ≤ IntKind.i64.wrap ((j16 : Int) + 1) := by omega
     have wt16 : (j16 : Int) ≤ ((IntKind.i64.wrap ((j16 : Int) + 1)).toNat : Int) := by omega
     have wu16 : j16 ≤ (IntKind.i64.wrap ((j16 : Int) + 1)).toNat := by omega
     have sb6 : 0 ≤ (j16 : Int) ∧ (j16 : Int) ≤ (IntKind.i64.wrap ((j16 : Int) + 1)) ∧ (IntKind.i64.wrap ((j16 : Int) + 1)) ≤ (p0.enums.length : Int) := by omega
     obtain ⟨s1_6, s2_6, s3_6⟩ := sb6
     have s4_6 : ((IntKind.i64.wrap ((j16 : Int) + 1))).toNat ≤ p0.enums.length := by omega
     refine EV.regionG tabOK ?_
     simp (maxSteps := 2000000) -implicitDefEqProofs [k5, u5, hx16, wp16, wt16, wu16, s1_6, s2_6, s3_6, s4_6]
     refine EV.seq ?_
     have := textS_le (SourceD.mk ([]) ((p0.enums.drop j16).take (((IntKind.i64.wrap ((j16 : Int) + 1))).toNat - j16)) ([])) (by first | exact (part_s p0 hw hz _ _).2 | exact (part_e p0 hw hz _ _).2 | exact (part_f p0 hw hz _ _).2 | exact hz)
     have ct7 : (a16_0).length + ((textS (SourceD.mk ([]) ((p0.enums.drop j16).take (((IntKind.i64.wrap ((j16 : Int) + 1))).toNat - j16)) ([])))).length ≤ 9223372036854775807 := by ((try dsimp only); (try simp only [List.drop_zero, List.length_append, List.length_cons, List.length_nil]); omega)
     try simp at ct7
     refine EV.regionG tabOK ?_
     simp (maxSteps := 2000000) -implicitDefEqProofs [k5, u5, hx16, wp16, wt16, wu16, s1_6, s2_6, s3_6, s4_6, ct7]
     refine callG_data [] (w_tText (SourceD.mk ([]) ((p0.enums.drop j16).take (((IntKind.i64.wrap ((j16 : Int) + 1))).toNat - j16)) ([])) (by first | exact (part_s p0 hw hz _ _).1 | exact (part_e p0 hw hz _ _).1 | exact (part_f p0 hw hz _ _).1 | exact hw) (by first | exact (part_s p0 hw hz _ _).2 | exact (part_e p0 hw hz _ _).2 | exact (part_f p0 hw hz _ _).2 | exact hz)) ?_ ?_ ?_
     ·simp [allP, allR, c0, ld1, ld0, cvOb, Pu, take_len_map, List.getD, List.range_succ]
     ·first | trivial | simp [nr, nr1, nr0]
     simp (maxSteps := 2000000) -implicitDefEqProofs [k5, u5, hx16, wp16, wt16, wu16, s1_6, s2_6, s3_6, s4_6, ct7]
     refine EV.regionG tabOK ?_
     simp (maxSteps := 2000000) -implicitDefEqProofs +contextual [k5, u5, hx16, wp16, wt16, wu16, s1_6, s2_6, s3_6, s4_6, ct7]
     refine callG_data [] (w_tValid05 (SourceD.mk ([]) ((p0.enums.drop j16).take (((IntKind.i64.wrap ((j16 : Int) + 1))).toNat - j16)) ([]))) ?_ ?_ ?_
     ·simp [allP, allR, c0, ld1, ld0, cvOb, Pu, take_len_map, List.getD, List.range_succ]
     ·first | trivial | simp [nr, nr1, nr0]
     simp (maxSteps := 2000000) -implicitDefEqProofs +contextual [k5, u5, hx16, wp16, wt16, wu16, s1_6, s2_6, s3_6, s4_6, ct7]
     refine EV.regionG tabOK ?_
     simp (maxSteps := 2000000) -implicitDefEqProofs [k5, u5, hx16, wp16, wt16, wu16, s1_6, s2_6, s3_6, s4_6, ct7]
     have w16 : IntKind.i64.wrap ((j16 : Int) + 1) = (j16 : Int) + 1 := wrap_in _ (by omega) (by omega)
     refine ⟨⟨(j16 + 1, (a16_0 ++ (textS (SourceD.mk ([]) ((p0.enums.drop j16).take (((IntKind.i64.wrap ((j16 : Int) + 1))).toNat - j16)) ([])))), ((tValid05 (SourceD.mk ([]) ((p0.enums.drop j16).take (((IntKind.i64.wrap ((j16 : Int) + 1))).toNat - j16)) ([]))) && a16_1)), by omega, e16, by ((try dsimp only); (try simp only [List.drop_zero, List.length_append, List.length_cons, List.length_nil]); omega)⟩, by dsimp only; omega, ?_⟩
     try dsimp only
     refine Sub.cutF 1 (by simp) ?_ ?_ <;> simp [List.range_succ, toIdx_range, passed, k5, u5, hx16, wp16, wt16, wu16, ct7, w16]
    try simp at k5
    have d5 : p0.enums.drop j16 = [] := List.drop_eq_nil_of_le (by omega)
    rw [d5, lTreeParts_l16] at e16
    refine EV.exit ?_
    simp -implicitDefEqProofs
    refine ⟨⟨((a16_0, a16_1), ()), e16.symm, by ((try dsimp only); (try simp only [List.drop_zero, List.length_append, List.length_cons, List.length_nil]); omega)⟩, ?_⟩
    try dsimp only
    refine Sub.cutF 1 (by simp) ?_ ?_ <;> simp [List.range_succ, toIdx_range, passed]
   ·skip
    rintro ⟨⟨v16, g16⟩, e16, p16⟩
    simp only [thenK_normal, blockK_normal, scopeK_normal, bodyK_normal]
    try dsimp only at p16
    replace e := bnd_on e e16
    try dsimp only at e
    refine EV.seq (EV.seq (EV.regionG tabOK ?_))
    simp (maxSteps := 2000000) -implicitDefEqProofs
    obtain ⟨z22, e22, e⟩ := bnd_split e
    refine EV.nrm (fun v : { v : ((List UInt8) × Bool) × (Unit) // z22 = v.1 ∧ (fun (v22 : (List UInt8) × Bool) => (v22.1.length : Int) ≤ ((p0.structs.length : Int) + (p0.enums.length : Int) + (p0.fns.length : Int)) * 3150000000000) v.1 } => (fun (v22 : (List UInt8) × Bool) (g22 : Unit) => (⟨[J, .ptr 0 0 0 0, J, .b true, J, .s v22.1, .b v22.2, J, J, J, J, J, J, J, J, J, J, J, J, J, J, J, J, J, J, J, J, J, J, J, J, J, J, J, J, J, J, J, J, J, J, J, J, J, J, J, J, J, J, J, J, J, J, J, J, J, J, J, J, J, J, J, J, J, J, J, J, J, J, J, J, J, J, J, J, J, J, J, J, J, J, J, J, J, J, J, J, J, J, J, J, J, J, J, J, J, J, J, J, J, J, J], [.arr 0 3 [[.ro 4 (p0.structs.map structC), .ro 3 (p0.enums.map enumC), .ro 4 (p0.fns.map fnC)]]]⟩ : St)) v.1.1 v.1.2) ?_ ?_
    ·skip
     refine EV.block ?_
     refine EV.loopB (fun x : { x : Nat × (List UInt8) × Bool // x.1 ≤ p0.fns.length ∧ lTreeParts_l22 p0 (p0.fns.drop x.1) x.1 x.2.1 x.2.2 = z22 ∧ (fun (j22 : Nat) (a22_0 : List UInt8) (a22_1 : Bool) => (a22_0.length : Int) ≤ ((p0.structs.length : Int) + (p0.enums.length : Int) + (j22 : Int)) * 3150000000000) x.1 x.2.1 x.2.2 } => (fun (j22 : Nat) (a22_0 : List UInt8) (a22_1 : Bool) => (⟨[J, .ptr 0 0 0 0, J, .b true, J, .s a22_0, .b a22_1, J, J, J, J, .i .i64 (j22 : Int), J, J, J, J, J, J, J, J, J, J, J, J, J, J, J, J, J, J, J, J, J, J, J, J, J, J, J, J, J, J, J, J, J, J, J, J, J, J, J, J, J, J, J, J, J, J, J, J, J, J, J, J, J, J, J, J, J, J, J, J, J, J, J, J, J, J, J, J, J, J, J, J, J, J, J, J, J, J, J, J, J, J, J, J, J, J, J, J, J, J], [.arr 0 3 [[.ro 4 (p0.structs.map structC), .ro 3 (p0.enums.map enumC), .ro 4 (p0.fns.map fnC)]]]⟩ : St)) x.1.1 x.1.2.1 x.1.2.2) (fun x => p0.fns.length - x.1.1) ⟨(0, v16.1, v16.2), Nat.zero_le _, e22, by ((try dsimp only); (try simp only [List.drop_zero, List.length_append, List.length_cons, List.length_nil]); omega)⟩ ?_ ?_
     ·skip
      try dsimp only
      try dsimp only
      refine Sub.cutF 1 (by simp) ?_ ?_ <;> simp [List.range_succ, toIdx_range, passed]
     rintro ⟨⟨j22, a22_0, a22_1⟩, hi22, e22, q22⟩
     simp only at hi22 e22 ⊢
     try dsimp only at q22
     refine EV.seq (EV.seq (EV.regionG tabOK ?_))
     simp (maxSteps := 2000000) -implicitDefEqProofs
     refine EV.room 68 (by rfl) (fun mj22 => ?_)
     simp at mj22
     refine EV.condT ?_
     simp -implicitDefEqProofs
     refine condT_intro (fun k8 => ?_) (fun k8 => ?_)
     ·try simp at k8
      have u8 : j22 < p0.fns.length := by omega
      obtain ⟨x22, hx22⟩ : ∃ z, p0.fns[j22] = z := ⟨_, rfl⟩
      have mx22 : x22 ∈ p0.fns := by rw [← hx22]; exact List.getElem_mem _
      have wz22 : IntKind.i64.wrap ((j22 : Int) + 1) = (j22 : Int) + 1 := wrap_in _ (by omega) (by omega)
      rw [List.drop_eq_getElem_cons u8, hx22, lTreeParts_l22] at e22
      refine EV.skip ?_
      simp only [thenK_normal, blockK_normal, scopeK_normal]
      refine EV.seq (EV.block (EV.seq ?_))
      have wp22 : (0 : Int) ≤ IntKind.i64.wrap ((j22 : Int) + 1) := by omega
      have wt22 : (j22 : Int) ≤ ((IntKind.i64.wrap ((j22 : Int) + 1)).toNat : Int) := by omega
      have wu22 : j22 ≤ (IntKind.i64.wrap ((j22 : Int) + 1)).toNat := by omega
      have sb9 : 0 ≤ (j22 : Int) ∧ (j22 : Int) ≤ (IntKind.i64.wrap ((j22 : Int) + 1)) ∧ (IntKind.i64.wrap ((j22 : Int) + 1)) ≤ (p0.fns.length : Int) := by omega
      obtain ⟨s1_9, s2_9, s3_9⟩ := sb9
      have s4_9 : ((IntKind.i64.wrap ((j22 : Int) + 1))).toNat ≤ p0.fns.length := by omega
      refine EV.regionG tabOK ?_
      simp (maxSteps := 2000000) -implicitDefEqProofs [k8, u8, hx22, wp22, wt22, wu22, s1_9, s2_9, s3_9, s4_9]
      refine EV.seq ?_
      have := textS_le (SourceD.mk ([]) ([]) ((p0.fns.drop j22).take (((IntKind.i64.wrap ((j22 : Int) + 1))).toNat - j22))) (by first | exact (part_s p0 hw hz _ _).2 | exact (part_e p0 hw hz _ _).2 | exact (part_f p0 hw hz _ _).2 | exact hz)
      have ct10 : (a22_0).length + ((textS (SourceD.mk ([]) ([]) ((p0.fns.drop j22).take (((IntKind.i64.wrap ((j22 : Int) + 1))).toNat - j22))))).length ≤ 9223372036854775807 := by ((try dsimp only); (try simp only [List.drop_zero, List.length_append, List.length_cons, List.length_nil]); omega)
      try simp at ct10
      refine EV.regionG tabOK ?_
      simp (maxSteps := 2000000) -implicitDefEqProofs [k8, u8, hx22, wp22, wt22, wu22, s1_9, s2_9, s3_9, s4_9, ct10]
      refine callG_data [] (w_tText (SourceD.mk ([]) ([]) ((p0.fns.drop j22).take (((IntKind.i64.wrap ((j22 : Int) + 1))).toNat - j22))) (by first | exact (part_s p0 hw hz _ _).1 | exact (part_e p0 hw hz _ _).1 | exact (part_f p0 hw hz _ _).1 | exact hw) (by first | exact (part_s p0 hw hz _ _).2 | exact (part_e p0 hw hz _ _).2 | exact (part_f p0 hw hz _ _).2 | exact hz)) ?_ ?_ ?_
      ·simp [allP, allR, c0, ld1, ld0, cvOb, Pu, take_len_map, List.getD, List.range_succ]
      ·first | trivial | simp [nr, nr1, nr0]
      simp (maxSteps := 2000000) -implicitDefEqProofs [k8, u8, hx22, wp22, wt22, wu22, s1_9, s2_9, s3_9, s4_9, ct10]
      refine EV.regionG tabOK ?_
      simp (maxSteps := 2000000) -implicitDefEqProofs +contextual [k8, u8, hx22, wp22, wt22, wu22, s1_9, s2_9, s3_9, s4_9, ct10]
      refine callG_data [] (w_tValid05 (SourceD.mk ([]) ([]) ((p0.fns.drop j22).take (((IntKind.i64.wrap ((j22 : Int) + 1))).toNat - j22)))) ?_ ?_ ?_
      ·simp [allP, allR, c0, ld1, ld0, cvOb, Pu, take_len_map, List.getD, List.range_succ]
      ·first | trivial | simp [nr, nr1, nr0]
      simp (maxSteps := 2000000) -implicitDefEqProofs +contextual [k8, u8, hx22, wp22, wt22, wu22, s1_9, s2_9, s3_9, s4_9, ct10]
      refine EV.regionG tabOK ?_
      simp (maxSteps := 2000000) -implicitDefEqProofs [k8, u8, hx22, wp22, wt22, wu22, s1_9, s2_9, s3_9, s4_9, ct10]
      have w22 : IntKind.i64.wrap ((j22 : Int) + 1) = (j22 : Int) + 1 := wrap_in _ (by omega) (by omega)
      refine ⟨⟨(j22 + 1, (a22_0 ++ (textS (SourceD.mk ([]) ([]) ((p0.fns.drop j22).take (((IntKind.i64.wrap ((j22 : Int) + 1))).toNat - j22))))), ((tValid05 (SourceD.mk ([]) ([]) ((p0.fns.drop j22).take (((IntKind.i64.wrap ((j22 : Int) + 1))).toNat - j22)))) && a22_1)), by omega, e22, by ((try dsimp only); (try simp only [List.drop_zero, List.length_append, List.length_cons, List.length_nil]); omega)⟩, by dsimp only; omega, ?_⟩
      try dsimp only
      refine Sub.cutF 1 (by simp) ?_ ?_ <;> simp [List.range_succ, toIdx_range, passed, k8, u8, hx22, wp22, wt22, wu22, ct10, w22]
     try simp at k8
     have d8 : p0.fns.drop j22 = [] := List.drop_eq_nil_of_le (by omega)
     rw [d8, lTreeParts_l22] at e22
     refine EV.exit ?_
     simp -implicitDefEqProofs
     refine ⟨⟨((a22_0, a22_1), ()), e22.symm, by ((try dsimp only); (try simp only [List.drop_zero, List.length_append, List.length_cons, List.length_nil]); omega)⟩, ?_⟩
     try dsimp only
     refine Sub.cutF 1 (by simp) ?_ ?_ <;> simp [List.range_succ, toIdx_range, passed]
    ·skip
     rintro ⟨⟨v22, g22⟩, e22, p22⟩
     simp only [thenK_normal, blockK_normal, scopeK_normal, bodyK_normal]
     try dsimp only at p22
     replace e := bnd_on e e22
     try dsimp only at e
     refine EV.seq ?_
     refine EV.nrm (fun _ : Unit => (⟨[J, J, .b ((decide ((textS p0) = v22.1)) && ((tValid05 p0) == v22.2)), J, J, J, J, J, J, J, J, J, J, J, J, J, J, J, J, J, J, J, J, J, J, J, J, J, J, J, J, J, J, J, J, J, J, J, J, J, J, J, J, J, J, J, J, J, J, J, J, J, J, J, J, J, J, J, J, J, J, J, J, J, J, J, J, J, J, J, J, J, J, J, J, J, J, J, J, J, J, J, J, J, J, J, J, J, J, J, J, J, J, J, J, J, J, J, J, J, J, J], []⟩ : St)) ?_ ?_
     ·skip
      by_cases k12 : (textS p0) = v22.1
      ·skip
       have kk12 := k12
       try simp at kk12
       have := textS_le p0 (by first | exact (part_s p0 hw hz _ _).2 | exact (part_e p0 hw hz _ _).2 | exact (part_f p0 hw hz _ _).2 | exact hz)
       refine EV.regionG tabOK ?_
       simp (maxSteps := 2000000) -implicitDefEqProofs +contextual [k12, kk12]
       refine callG_fun (w_tText p0 (by first | exact (part_s p0 hw hz _ _).1 | exact (part_e p0 hw hz _ _).1 | exact (part_f p0 hw hz _ _).1 | exact hw) (by first | exact (part_s p0 hw hz _ _).2 | exact (part_e p0 hw hz _ _).2 | exact (part_f p0 hw hz _ _).2 | exact hz)) ?_ ?_
       ·first | (simp; done) | (simp [k12, kk12]; done)
       simp (maxSteps := 2000000) -implicitDefEqProofs +contextual [k12, kk12]
       refine callG_fun (w_tValid05 p0) ?_ ?_
       ·first | (simp; done) | (simp [k12, kk12]; done)
       simp (maxSteps := 2000000) -implicitDefEqProofs +contextual [k12, kk12]
       refine ⟨(), ?_⟩
       try dsimp only
       refine Sub.cutF 0 (by simp) ?_ ?_ <;> simp [List.range_succ, toIdx_range, passed, k12, kk12]
      have kk12 := k12
      try simp at kk12
      have := textS_le p0 (by first | exact (part_s p0 hw hz _ _).2 | exact (part_e p0 hw hz _ _).2 | exact (part_f p0 hw hz _ _).2 | exact hz)
      refine EV.regionG tabOK ?_
      simp (maxSteps := 2000000) -implicitDefEqProofs +contextual [k12, kk12]
      refine callG_fun (w_tText p0 (by first | exact (part_s p0 hw hz _ _).1 | exact (part_e p0 hw hz _ _).1 | exact (part_f p0 hw hz _ _).1 | exact hw) (by first | exact (part_s p0 hw hz _ _).2 | exact (part_e p0 hw hz _ _).2 | exact (part_f p0 hw hz _ _).2 | exact hz)) ?_ ?_
      ·first | (simp; done) | (simp [k12, kk12]; done)
      simp (maxSteps := 2000000) -implicitDefEqProofs +contextual [k12, kk12]
      refine ⟨(), ?_⟩
      try dsimp only
      refine Sub.cutF 0 (by simp) ?_ ?_ <;> simp [List.range_succ, toIdx_range, passed, k12, kk12]
     ·skip
      rintro _
      simp only [thenK_normal, blockK_normal, scopeK_normal, bodyK_normal]
      refine EV.ret ?_
      simp only [thenK_ret, blockK_ret, scopeK_ret, bodyK_ret]
      subst e
      refine Fin.pure0 ?_
      first | (simp; done) | (simp <;> grind)
end
end Go.Proofs.Tryz
end
section
namespace Go.Proofs.Tryz
open Go Go.AM
set_option linter.unusedVariables false
set_option linter.unusedSimpArgs false

theorem one_part {A : Type} {l : List A} {j : Nat} {x : A} {r : List A} (h : l.drop j = x :: r) (hn : l.length ≤ 1050000) : (l.drop j).take ((IntKind.i64.wrap ((j : Int) + 1)).toNat - j) = [x] := by
  have hj : j < l.length := by
    rcases Nat.lt_or_ge j l.length with h' | h'
    · exact h'
    · rw [List.drop_eq_nil_of_le h'] at h; cases h
  rw [wrap_in ((j : Int) + 1) (by omega) (by omega), show ((j : Int) + 1).toNat - j = 1 by omega, h]
  rfl
theorem drop_next {A : Type} {l : List A} {j : Nat} {x : A} {r : List A} (h : l.drop j = x :: r) : l.drop (j + 1) = r := by
  rw [← List.drop_drop, h]; rfl
theorem allStruct_eq (l : List StructD) (f : StructD → Bool) : allStruct l f = l.all f := by
  have h : ∀ l : List StructD, allStruct_l2 f l = if l.all f then .go () else .ret false := by
    intro l
    induction l with
    | nil => simp [allStruct_l2]
    | cons x l ih => cases hx : f x <;> simp [allStruct_l2, ih, hx]
  unfold allStruct
  rw [h]
  cases l.all f <;> simp [Ctl.run]
theorem allEnum_eq (l : List EnumD) (f : EnumD → Bool) : allEnum l f = l.all f := by
  have h : ∀ l : List EnumD, allEnum_l2 f l = if l.all f then .go () else .ret false := by
    intro l
    induction l with
    | nil => simp [allEnum_l2]
    | cons x l ih => cases hx : f x <;> simp [allEnum_l2, ih, hx]
  unfold allEnum
  rw [h]
  cases l.all f <;> simp [Ctl.run]
theorem allFn_eq (l : List FnD) (f : FnD → Bool) : allFn l f = l.all f := by
  have h : ∀ l : List FnD, allFn_l2 f l = if l.all f then .go () else .ret false := by
    intro l
    induction l with
    | nil => simp [allFn_l2]
    | cons x l ih => cases hx : f x <;> simp [allFn_l2, ih, hx]
  unfold allFn
  rw [h]
  cases l.all f <;> simp [Ctl.run]

theorem parts10 (p : SourceD) (hn : p.structs.length ≤ 1050000) : ∀ (l : List StructD) (j : Nat) (a : List UInt8) (b : Bool), p.structs.drop j = l → lTreeParts_l10 p l j a b = (a ++ (l.map stxT).flatten, l.all tValid_1 && b)
  | [], j, a, b, _ => by simp [lTreeParts_l10]
  | x :: r, j, a, b, h => by
    simp only [lTreeParts_l10]
    rw [one_part h hn, parts10 p hn r _ _ _ (drop_next h)]
    simp [textS, tValid05, allStruct_eq, allEnum_eq, allFn_eq]
    cases tValid_1 x <;> cases r.all tValid_1 <;> cases b <;> rfl
theorem parts16 (p : SourceD) (hn : p.enums.length ≤ 1050000) : ∀ (l : List EnumD) (j : Nat) (a : List UInt8) (b : Bool), p.enums.drop j = l → lTreeParts_l16 p l j a b = (a ++ (l.map enmT).flatten, l.all tValid_2 && b)
  | [], j, a, b, _ => by simp [lTreeParts_l16]
  | x :: r, j, a, b, h => by
    simp only [lTreeParts_l16]
    rw [one_part h hn, parts16 p hn r _ _ _ (drop_next h)]
    simp [textS, tValid05, allStruct_eq, allEnum_eq, allFn_eq]
    cases tValid_2 x <;> cases r.all tValid_2 <;> cases b <;> rfl
theorem parts22 (p : SourceD) (hn : p.fns.length ≤ 1050000) : ∀ (l : List FnD) (j : Nat) (a : List UInt8) (b : Bool), p.fns.drop j = l → lTreeParts_l22 p l j a b = (a ++ (l.map fnT).flatten, l.all tValid_3 && b)
  | [], j, a, b, _ => by simp [lTreeParts_l22]
  | x :: r, j, a, b, h => by
    simp only [lTreeParts_l22]
    rw [one_part h hn, parts22 p hn r _ _ _ (drop_next h)]
    simp [textS, tValid05, allStruct_eq, allEnum_eq, allFn_eq]
    cases tValid_3 x <;> cases r.all tValid_3 <;> cases b <;> rfl
theorem lTreeParts_true (p : SourceD) (hz : bkL (sourceC p) ≤ 1050000) : lTreeParts p = true := by
  have hn := src_len p hz
  unfold lTreeParts
  simp only [bnd]
  rw [parts10 p (by omega) p.structs 0 _ _ rfl]
  dsimp only
  rw [parts16 p (by omega) p.enums 0 _ _ rfl]
  dsimp only
  rw [parts22 p (by omega) p.fns 0 _ _ rfl]
  dsimp only
  split
  · rfl
  · simp only [textS, tValid05, allStruct_eq, allEnum_eq, allFn_eq, List.nil_append, List.append_assoc, decide_true, Bool.true_and, Bool.and_true]
    cases p.structs.all tValid_1 <;> cases p.enums.all tValid_2 <;> cases p.fns.all tValid_3 <;> rfl
end Go.Proofs.Tryz
end
section
namespace Go.Proofs.Tryz
open Go Go.AM
attribute [local simp] wpG_op wpG_nil contG_some wpG_guard guardG_v guardG_o guardG_tup gval pureOp stepG_if isPick pickG_pick pickB_b pickOK isCall step_move step_assign step_alloc step_box boxV_some step_load step_store step_binOp step_unOp step_fieldAddr faV step_indexAddr ixA_slc ixA_arr step_extract extV_tup step_nilCheck ncV_ptr ncV_rp ncV_fn ncV_mp step_build buildV step_buildSlice bsV step_index ixV_arr ixV_str step_append apB step_makeSlice msV_i step_makeFunc over step_len step_makeMap mmV step_mapUpdate step_insert muA_map muB_mp step_lookup lkA_map lkB_mp step_slice slcV_s slcV_sl slcV_ro cutB_some slObV_arr bound_none bound_some bndV_i lenB_str lenB_ro lenB_sl lenB_nil lenB_z ld_ptr ld_rp offV_ptr offV_rp idxV_ro idxV_sl unV_not unV_neg binV_int binV_str binV_eqlb binV_neqb intOp strOp St.put updL setOb St.ev toV St.lk cellsOf AM.valOf TK.agg stv fillV places TI.zero condT_true condT_false finS resL resSlot packV ren ren1 ren0 Value.cells builtinV appendV elemsOf keepT room_of wrap_in toIdx passed Function.comp_def take_len_map lenV touchOf hid tab1 tab2 tab3 tab4 tab5 tab6 tab7 tab8 tab9 tab20 tab22 tab23 tab24 tab26 tab32 tab33 tab35 tab36 tab37 tab39 tab41 tab42 tab43 tab45 tab46 tab47 tab49 tab50 tab52 tab74 tab79 tab83 tab86 tab87 tab89 tab92 tab100 tab101 tab102 tab103 tab105 tab107 tab108 tab113 tab114 tab116 tab117 tab118 tab122 tab123 tab125 tab127 tab130 tab132 tab136 tab173 tab175 tab178 tab179 tab180 tab182 tab189 tab215 tab219 tab220 tab224 tab225 tab241 tab244 tab247 tab253 tab261 tab262 tab265 tab266 armC_eq blockC_eq bodyC_eq enumC_eq fieldC_eq fnC_eq inC_eq localC_eq mirBodyC_eq operC_eq placeC_eq rvC_eq sourceC_eq spotC_eq stepC_eq stmtC_eq structC_eq tmC_eq tyC_eq useC_eq valueC_eq variantC_eq binV_eqls binV_neqs cutL_nil cutL_junk cutL_cons ren_arr ren_gone ren_unborn ren_var ren_row step_convert cvV_i cvV_sl cvV_s cvK_slc cvE_u8 bytesOf bor1 bor2 bor3 bor4
set_option linter.unusedSimpArgs false
set_option linter.unusedVariables false
set_option maxRecDepth 10000
set_option maxHeartbeats 4000000
noncomputable section
set_option linter.unusedVariables false
theorem rd_TyD (k : Nat) (xs : List V) (h : shpW tab k 45 xs) : ∃ x : TyD, xs = tyC x ∧ True := by
  obtain ⟨yss, h1, h2, k', hk, h3⟩ := shpW_fields h (show (tab 45).kind = .str [(0, 42), (1, 9), (2, 43)] from rfl)
  match yss, h2 with
  | [y0, y1, y2], _ =>
    obtain ⟨a0, rfl, b0⟩ := shpW_int (h3 0 _ _ rfl rfl) (show (tab 42).kind = .int .i64 from rfl)
    obtain ⟨a1, rfl, b1⟩ := shpW_str (h3 1 _ _ rfl rfl) (show (tab 9).kind = .string from rfl)
    obtain ⟨a2, rfl, b2, c2⟩ := shpW_slc tyC (fun x => True) (h3 2 _ _ rfl rfl) (show (tab 43).kind = .slc 45 from rfl) (fun k _ l hl => rd_TyD k l hl)
    exact ⟨⟨a0, a1, a2⟩, by rw [h1]; simp [tyC_eq], trivial⟩
termination_by k
decreasing_by all_goals omega

theorem rd_FieldD (k : Nat) (xs : List V) (h : shpW tab k 100 xs) : ∃ x : FieldD, xs = fieldC x ∧ True := by
  obtain ⟨yss, h1, h2, k', hk, h3⟩ := shpW_fields h (show (tab 100).kind = .str [(0, 9), (1, 45)] from rfl)
  match yss, h2 with
  | [y0, y1], _ =>
    obtain ⟨a0, rfl, b0⟩ := shpW_str (h3 0 _ _ rfl rfl) (show (tab 9).kind = .string from rfl)
    obtain ⟨a1, rfl, b1⟩ := rd_TyD _ _ (h3 1 _ _ rfl rfl)
    exact ⟨⟨a0, a1⟩, by rw [h1]; simp [fieldC_eq], trivial⟩

theorem rd_StructD (k : Nat) (xs : List V) (h : shpW tab k 86 xs) : ∃ x : StructD, xs = structC x ∧ True := by
  obtain ⟨yss, h1, h2, k', hk, h3⟩ := shpW_fields h (show (tab 86).kind = .str [(0, 9), (1, 4), (2, 33), (3, 3)] from rfl)
  match yss, h2 with
  | [y0, y1, y2, y3], _ =>
    obtain ⟨a0, rfl, b0⟩ := shpW_str (h3 0 _ _ rfl rfl) (show (tab 9).kind = .string from rfl)
    obtain ⟨a1, rfl⟩ := shpW_bool (h3 1 _ _ rfl rfl) (show (tab 4).kind = .bool from rfl)
    obtain ⟨a2, rfl, b2, c2⟩ := shpW_slc fieldC (fun x => True) (h3 2 _ _ rfl rfl) (show (tab 33).kind = .slc 100 from rfl) (fun k _ l hl => rd_FieldD k l hl)
    obtain ⟨a3, rfl, b3⟩ := shpW_int (h3 3 _ _ rfl rfl) (show (tab 3).kind = .int .i64 from rfl)
    exact ⟨⟨a0, a1, a2, a3⟩, by rw [h1]; simp [structC_eq], trivial⟩

theorem rd_VariantD (k : Nat) (xs : List V) (h : shpW tab k 92 xs) : ∃ x : VariantD, xs = variantC x ∧ True := by
  obtain ⟨yss, h1, h2, k', hk, h3⟩ := shpW_fields h (show (tab 92).kind = .str [(0, 9), (1, 45)] from rfl)
  match yss, h2 with
  | [y0, y1], _ =>
    obtain ⟨a0, rfl, b0⟩ := shpW_str (h3 0 _ _ rfl rfl) (show (tab 9).kind = .string from rfl)
    obtain ⟨a1, rfl, b1⟩ := rd_TyD _ _ (h3 1 _ _ rfl rfl)
    exact ⟨⟨a0, a1⟩, by rw [h1]; simp [variantC_eq], trivial⟩

theorem rd_EnumD (k : Nat) (xs : List V) (h : shpW tab k 89 xs) : ∃ x : EnumD, xs = enumC x ∧ True := by
  obtain ⟨yss, h1, h2, k', hk, h3⟩ := shpW_fields h (show (tab 89).kind = .str [(0, 9), (1, 87), (2, 3)] from rfl)
  match yss, h2 with
  | [y0, y1, y2], _ =>
    obtain ⟨a0, rfl, b0⟩ := shpW_str (h3 0 _ _ rfl rfl) (show (tab 9).kind = .string from rfl)
    obtain ⟨a1, rfl, b1, c1⟩ := shpW_slc variantC (fun x => True) (h3 1 _ _ rfl rfl) (show (tab 87).kind = .slc 92 from rfl) (fun k _ l hl => rd_VariantD k l hl)
    obtain ⟨a2, rfl, b2⟩ := shpW_int (h3 2 _ _ rfl rfl) (show (tab 3).kind = .int .i64 from rfl)
    exact ⟨⟨a0, a1, a2⟩, by rw [h1]; simp [enumC_eq], trivial⟩

theorem rd_StepD (k : Nat) (xs : List V) (h : shpW tab k 79 xs) : ∃ x : StepD, xs = stepC x ∧ True := by
  obtain ⟨yss, h1, h2, k', hk, h3⟩ := shpW_fields h (show (tab 79).kind = .str [(0, 9)] from rfl)
  match yss, h2 with
  | [y0], _ =>
    obtain ⟨a0, rfl, b0⟩ := shpW_str (h3 0 _ _ rfl rfl) (show (tab 9).kind = .string from rfl)
    exact ⟨⟨a0⟩, by rw [h1]; simp [stepC_eq], trivial⟩

theorem rd_PlaceD (k : Nat) (xs : List V) (h : shpW tab k 39 xs) : ∃ x : PlaceD, xs = placeC x ∧ True := by
  obtain ⟨yss, h1, h2, k', hk, h3⟩ := shpW_fields h (show (tab 39).kind = .str [(0, 9), (1, 37)] from rfl)
  match yss, h2 with
  | [y0, y1], _ =>
    obtain ⟨a0, rfl, b0⟩ := shpW_str (h3 0 _ _ rfl rfl) (show (tab 9).kind = .string from rfl)
    obtain ⟨a1, rfl, b1, c1⟩ := shpW_slc stepC (fun x => True) (h3 1 _ _ rfl rfl) (show (tab 37).kind = .slc 79 from rfl) (fun k _ l hl => rd_StepD k l hl)
    exact ⟨⟨a0, a1⟩, by rw [h1]; simp [placeC_eq], trivial⟩

theorem rd_OperD (k : Nat) (xs : List V) (h : shpW tab k 41 xs) : ∃ x : OperD, xs = operC x ∧ True := by
  obtain ⟨yss, h1, h2, k', hk, h3⟩ := shpW_fields h (show (tab 41).kind = .str [(0, 4), (1, 3), (2, 39)] from rfl)
  match yss, h2 with
  | [y0, y1, y2], _ =>
    obtain ⟨a0, rfl⟩ := shpW_bool (h3 0 _ _ rfl rfl) (show (tab 4).kind = .bool from rfl)
    obtain ⟨a1, rfl, b1⟩ := shpW_int (h3 1 _ _ rfl rfl) (show (tab 3).kind = .int .i64 from rfl)
    obtain ⟨a2, rfl, b2⟩ := rd_PlaceD _ _ (h3 2 _ _ rfl rfl)
    exact ⟨⟨a0, a1, a2⟩, by rw [h1]; simp [operC_eq], trivial⟩

theorem rd_RvD (k : Nat) (xs : List V) (h : shpW tab k 49 xs) : ∃ x : RvD, xs = rvC x ∧ True := by
  obtain ⟨yss, h1, h2, k', hk, h3⟩ := shpW_fields h (show (tab 49).kind = .str [(0, 46), (1, 47), (2, 39), (4, 9), (5, 9)] from rfl)
  match yss, h2 with
  | [y0, y1, y2, y3, y4], _ =>
    obtain ⟨a0, rfl, b0⟩ := shpW_int (h3 0 _ _ rfl rfl) (show (tab 46).kind = .int .i64 from rfl)
    obtain ⟨a1, rfl, b1, c1⟩ := shpW_slc operC (fun x => True) (h3 1 _ _ rfl rfl) (show (tab 47).kind = .slc 41 from rfl) (fun k _ l hl => rd_OperD k l hl)
    obtain ⟨a2, rfl, b2⟩ := rd_PlaceD _ _ (h3 2 _ _ rfl rfl)
    obtain ⟨a3, rfl, b3⟩ := shpW_str (h3 3 _ _ rfl rfl) (show (tab 9).kind = .string from rfl)
    obtain ⟨a4, rfl, b4⟩ := shpW_str (h3 4 _ _ rfl rfl) (show (tab 9).kind = .string from rfl)
    exact ⟨⟨a0, a1, a2, a3, a4⟩, by rw [h1]; simp [rvC_eq], trivial⟩

mutual
theorem rd_ArmD (k : Nat) (xs : List V) (h : shpW tab k 136 xs) : ∃ x : ArmD, xs = armC x ∧ True := by
  obtain ⟨yss, h1, h2, k', hk, h3⟩ := shpW_fields h (show (tab 136).kind = .str [(0, 9), (1, 9), (2, 32)] from rfl)
  match yss, h2 with
  | [y0, y1, y2], _ =>
    obtain ⟨a0, rfl, b0⟩ := shpW_str (h3 0 _ _ rfl rfl) (show (tab 9).kind = .string from rfl)
    obtain ⟨a1, rfl, b1⟩ := shpW_str (h3 1 _ _ rfl rfl) (show (tab 9).kind = .string from rfl)
    obtain ⟨a2, rfl, b2, c2⟩ := shpW_slc stmtC (fun x => True) (h3 2 _ _ rfl rfl) (show (tab 32).kind = .slc 52 from rfl) (fun k _ l hl => rd_StmtD k l hl)
    exact ⟨⟨a0, a1, a2⟩, by rw [h1]; simp [armC_eq], trivial⟩
termination_by k
decreasing_by all_goals omega

theorem rd_StmtD (k : Nat) (xs : List V) (h : shpW tab k 52 xs) : ∃ x : StmtD, xs = stmtC x ∧ True := by
  obtain ⟨yss, h1, h2, k', hk, h3⟩ := shpW_fields h (show (tab 52).kind = .str [(0, 36), (1, 3), (2, 9), (3, 45), (6, 39), (8, 49), (14, 41), (18, 32), (19, 32), (20, 50)] from rfl)
  match yss, h2 with
  | [y0, y1, y2, y3, y4, y5, y6, y7, y8, y9], _ =>
    obtain ⟨a0, rfl, b0⟩ := shpW_int (h3 0 _ _ rfl rfl) (show (tab 36).kind = .int .i64 from rfl)
    obtain ⟨a1, rfl, b1⟩ := shpW_int (h3 1 _ _ rfl rfl) (show (tab 3).kind = .int .i64 from rfl)
    obtain ⟨a2, rfl, b2⟩ := shpW_str (h3 2 _ _ rfl rfl) (show (tab 9).kind = .string from rfl)
    obtain ⟨a3, rfl, b3⟩ := rd_TyD _ _ (h3 3 _ _ rfl rfl)
    obtain ⟨a4, rfl, b4⟩ := rd_PlaceD _ _ (h3 4 _ _ rfl rfl)
    obtain ⟨a5, rfl, b5⟩ := rd_RvD _ _ (h3 5 _ _ rfl rfl)
    obtain ⟨a6, rfl, b6⟩ := rd_OperD _ _ (h3 6 _ _ rfl rfl)
    obtain ⟨a7, rfl, b7, c7⟩ := shpW_slc stmtC (fun x => True) (h3 7 _ _ rfl rfl) (show (tab 32).kind = .slc 52 from rfl) (fun k _ l hl => rd_StmtD k l hl)
    obtain ⟨a8, rfl, b8, c8⟩ := shpW_slc stmtC (fun x => True) (h3 8 _ _ rfl rfl) (show (tab 32).kind = .slc 52 from rfl) (fun k _ l hl => rd_StmtD k l hl)
    obtain ⟨a9, rfl, b9, c9⟩ := shpW_slc armC (fun x => True) (h3 9 _ _ rfl rfl) (show (tab 50).kind = .slc 136 from rfl) (fun k _ l hl => rd_ArmD k l hl)
    exact ⟨⟨a0, a1, a2, a3, a4, a5, a6, a7, a8, a9⟩, by rw [h1]; simp [stmtC_eq], trivial⟩
termination_by k
decreasing_by all_goals omega
end

theorem rd_FnD (k : Nat) (xs : List V) (h : shpW tab k 35 xs) : ∃ x : FnD, xs = fnC x ∧ True := by
  obtain ⟨yss, h1, h2, k', hk, h3⟩ := shpW_fields h (show (tab 35).kind = .str [(0, 9), (1, 33), (2, 32), (3, 3)] from rfl)
  match yss, h2 with
  | [y0, y1, y2, y3], _ =>
    obtain ⟨a0, rfl, b0⟩ := shpW_str (h3 0 _ _ rfl rfl) (show (tab 9).kind = .string from rfl)
    obtain ⟨a1, rfl, b1, c1⟩ := shpW_slc fieldC (fun x => True) (h3 1 _ _ rfl rfl) (show (tab 33).kind = .slc 100 from rfl) (fun k _ l hl => rd_FieldD k l hl)
    obtain ⟨a2, rfl, b2, c2⟩ := shpW_slc stmtC (fun x => True) (h3 2 _ _ rfl rfl) (show (tab 32).kind = .slc 52 from rfl) (fun k _ l hl => rd_StmtD k l hl)
    obtain ⟨a3, rfl, b3⟩ := shpW_int (h3 3 _ _ rfl rfl) (show (tab 3).kind = .int .i64 from rfl)
    exact ⟨⟨a0, a1, a2, a3⟩, by rw [h1]; simp [fnC_eq], trivial⟩

theorem rd_SourceD (k : Nat) (xs : List V) (h : shpW tab k 26 xs) : ∃ x : SourceD, xs = sourceC x ∧ True := by
  obtain ⟨yss, h1, h2, k', hk, h3⟩ := shpW_fields h (show (tab 26).kind = .str [(0, 22), (1, 23), (2, 24)] from rfl)
  match yss, h2 with
  | [y0, y1, y2], _ =>
    obtain ⟨a0, rfl, b0, c0⟩ := shpW_slc structC (fun x => True) (h3 0 _ _ rfl rfl) (show (tab 22).kind = .slc 86 from rfl) (fun k _ l hl => rd_StructD k l hl)
    obtain ⟨a1, rfl, b1, c1⟩ := shpW_slc enumC (fun x => True) (h3 1 _ _ rfl rfl) (show (tab 23).kind = .slc 89 from rfl) (fun k _ l hl => rd_EnumD k l hl)
    obtain ⟨a2, rfl, b2, c2⟩ := shpW_slc fnC (fun x => True) (h3 2 _ _ rfl rfl) (show (tab 24).kind = .slc 35 from rfl) (fun k _ l hl => rd_FnD k l hl)
    exact ⟨⟨a0, a1, a2⟩, by rw [h1]; simp [sourceC_eq], trivial⟩
end
end Go.Proofs.Tryz
end
section
namespace Go.Proofs.YtakfpmogpnoibaaGreatDoor
open Go.ChangeShapes Go.WideShapes Go.ChangeAt Go.RowKit Go.AM Go.Proofs.Tryz

theorem ownKnobNone : ownKnob Tryz.prog.godebug = none := by kernel_rfl
theorem laidOutAll : laidOutB Tryz.prog = true := by kernel_rfl
def readT : List TypeId := [3, 4, 9, 22, 23, 24, 26, 32, 33, 35, 36, 37, 39, 41, 42, 43, 45, 46, 47, 49, 50, 52, 79, 86, 87, 89, 92, 100, 136]
theorem readT_closed : closedS tab readT = true := by decide +kernel

theorem gokOf {W : World} {L : List (String × DataW Unit)} (hL : L.drop 2 = [("internal/strconv.uint64pow10", Lib.tabData .u64 Lib.pow10Tab)])
    (hp : (L.all fun x => x.2.handleName?.isNone) = true) (h : laidMetH Tryz.prog L W) : GOK Tryz.prog W (fun _ => False) := by
  rw [MakeChecks.laidMetH_plain _ _ _ hp] at h
  obtain ⟨a, b, rfl⟩ : ∃ a b, L = [a, b, ("internal/strconv.uint64pow10", Lib.tabData .u64 Lib.pow10Tab)] := by
    match L, hL with
    | a :: b :: r, hL => exact ⟨a, b, by rw [show r = _ from hL]⟩
  have h1 := Lib.tabIs_of_head (g := 0) (t := 261) (e := 247) (n := 20) (by kernel_rfl) (by kernel_rfl) (by kernel_rfl) (by kernel_rfl) (by kernel_rfl) (by kernel_rfl) (laidMet.tail (laidMet.tail h))
  intro e he
  obtain rfl := List.mem_singleton.1 he
  refine ⟨h1, fun g hg => ⟨?_, not_false⟩⟩
  unfold Lib.TabIs World.var? at h1
  rw [hg] at h1
  simp only [Option.bind_some] at h1
  rcases Nat.lt_or_ge g W.heap.size with h' | h'
  · exact h'
  · rw [Array.getElem?_eq_none h'] at h1; cases h1
end Go.Proofs.YtakfpmogpnoibaaGreatDoor
end
section
namespace Go.Proofs.YtakfpmogpnoibaaGreatDoor
open Go.ChangeShapes Go.WideShapes Go.ChangeAt Go.RowKit Go.AM Go.Proofs.Tryz

theorem bulk_all {H : Type} : ∀ ds : List (DataW H), Rows.uptoBulkAll ds = (ds.map Rows.uptoBulk).sum
  | [] => rfl
  | d :: ds => by simp only [Rows.uptoBulkAll, List.map_cons, List.sum_cons, bulk_all ds]
theorem bulk_pos {H : Type} : ∀ d : DataW H, 1 ≤ Rows.uptoBulk d
  | .lit l => by cases l <;> simp [Rows.uptoBulk]
  | .nil => by simp [Rows.uptoBulk]
  | .ptr _ => by simp [Rows.uptoBulk]
  | .slice _ _ => by simp [Rows.uptoBulk]
  | .agg _ => by simp [Rows.uptoBulk]
  | .iface _ _ => by simp [Rows.uptoBulk]
  | .map _ => by simp [Rows.uptoBulk]
  | .held _ => by simp [Rows.uptoBulk]

set_option maxRecDepth 100000 in
theorem treePartsLifted (HQ : ∀ (xs0 : List V) (n0 : Nat), shpW tab n0 26 xs0 → bkL xs0 ≤ 1048576 → QC Tryz.prog 5 [.agg xs0] [] (.b true) []) (os : Os) (started : os.Started) (H : Type) (enc : TypeId × Value → H) (F0 : Stop.Interp) :
    ReturnsInHanded {} Tryz.checked os 5 .any (OpenSpec.preRow enc Tryz.prog Tryz.f5 (Rows.OpenSpec.upto Rows.treePartsSpec) Rows.treePartsUptoRow.domain false Rows.treePartsUptoRow.laid)
      (((Rows.OpenSpec.upto Rows.treePartsSpec).at F0).post enc Tryz.prog Tryz.f5 false true false false) := by
  refine returnsInHanded_of_cond_and (C := Tryz.checked) (s := Rows.OpenSpec.upto Rows.treePartsSpec) (k := Rows.uptoSmall) rfl ownKnobNone started (by kernel_rfl) Tryz.func5
    (witness_cond (enc := enc) (C := Tryz.checked) (os := os) (s := Rows.OpenSpec.upto Rows.treePartsSpec) false (World.laidAll Tryz.prog os Rows.treePartsUptoRow.laid) #[.agg #[.slice none 0 0, .slice none 0 0, .slice none 0 0]] 8 (World.laidAll_os _ _ _)
      (World.shaped_of_ZipB (by kernel_rfl) (by kernel_rfl)) (by kernel_rfl)
      (OpenSpec.preRow_of_cond 8 (x := ([.agg [.nil, .nil, .nil]], [], [])) (by kernel_rfl) (by kernel_rfl) (fun k hk => by cases hk; kernel_rfl) (by kernel_rfl) (by rw [MakeChecks.laidMetH_plain _ _ _ (by kernel_rfl)]; exact laidMet_laidAll _ (by kernel_rfl) (by kernel_rfl)))) ?_
  intro W base args ds gs before hval0 hW hk hwt hL
  have hval : ∀ (j : Nat) t v, Tryz.f5.params[j]? = some t → args[j]? = some v → Value.okWide Tryz.prog W .any base t v := hval0
  have hW' := hW
  obtain ⟨p, q, hA0, hV, rfl, _, _⟩ := hW
  have hA : DataW.TrodAll enc Tryz.prog W 0 (fun _ => true) true Tryz.f5.params.toList args.toList ds p := hA0
  rw [Tryz.params5] at hA hval
  have hw : ∀ x ∈ DataW.weightsEach Tryz.prog (Tryz.f5.params.toList ++ Rows.treePartsSpec.plain.varTypes Tryz.prog) (ds ++ gs), x ≤ reachBytes := fun x hx => of_decide_eq_true (List.all_eq_true.1 hwt x hx)
  have hz := of_decide_eq_true hk
  obtain ⟨v0, d0, rfl, rfl, h0⟩ := trodAll_one hA
  obtain ⟨rfl, rfl⟩ := trodVars_none hV
  rw [Tryz.params5] at hw
  have hw0 : ∀ q ∈ d0.weights Tryz.prog 26, q ≤ reachBytes := fun q hq => hw q (DataW.weights_mem_each (j := 0) rfl rfl q hq)
  simp only [List.append_nil] at hW'
  have hlt : ∀ x ∈ p, x.block < W.heap.size := fun x hx => by simpa using hW'.lt x (by simpa using hx)
  simp only [List.append_nil, Rows.uptoBulkAll] at hz
  obtain ⟨xs0, ⟨n0, hs0⟩, hz0, hr0⟩ := arg_structB tabOK (T := tab) (t := 26) (S := readT) Rows.uptoBulk (fun s => by simp [Rows.uptoBulk]) bulk_pos (fun es sp => by simp only [Rows.uptoBulk, bulk_all]; omega) (fun ps => by simp only [Rows.uptoBulk, bulk_all]; omega) readT_closed rfl (by decide) (hval 0 26 v0 rfl rfl) h0 hw0
  refine ((HQ xs0 n0 hs0 (by omega)).truth (gokOf (L := Rows.treePartsUptoRow.laid) (by kernel_rfl) (by kernel_rfl) hL) (vs := #[v0]) (W := W) rfl (fun ok hok D j x u hx hu => ?_)).mono fun e W' ⟨he, hb⟩ => ?_
  · match j with
    | 0 =>
      simp only [List.getElem?_cons_succ, List.getElem?_cons_zero, Option.some.injEq] at hx
      subst hx
      obtain rfl : v0 = u := by simpa using hu
      exact hr0 ok hok D
    | j + 1 => simp at hx
  · subst he
    refine ⟨_, rfl, _, _, _, [], p, [], by first | exact hW' | simpa using hW', ?_, ?_, ?_, hb.frame _, fun h => by cases h⟩
    · exact trodAll_mk1 (shut_bool Tryz.underlying4 true)
    · exact trodAll_mk1 (Below.trod laidOutAll (by kernel_rfl) (of_decide_eq_true (by kernel_rfl)) h0 hb hlt)
    · rfl

theorem treePartsHolds (HQ : ∀ (xs0 : List V) (n0 : Nat), shpW tab n0 26 xs0 → bkL xs0 ≤ 1048576 → QC Tryz.prog 5 [.agg xs0] [] (.b true) []) : Rows.TreePartsUptoSaid :=
  OpenClaim.holds_of_cond 5 Tryz.f5 rfl rfl rfl rfl rfl rfl rfl ⟨rfl, rfl, rfl, rfl, rfl⟩ rfl rfl rfl rfl rfl (by kernel_rfl) Tryz.func5 (by kernel_rfl)
    (of_decide_eq_true (by kernel_rfl)) (by unfold Func.isWrapper; rw [if_neg (by decide +kernel)]; exact ⟨rfl, rfl⟩)
    (fun os started H enc _ F0 => by rw [OpenClaim.pre_eq_preRow]; exact treePartsLifted HQ os started H enc F0)

theorem treePartsCard (HQ : ∀ (xs0 : List V) (n0 : Nat), shpW tab n0 26 xs0 → bkL xs0 ≤ 1048576 → QC Tryz.prog 5 [.agg xs0] [] (.b true) []) : Rows.TreePartsUptoCardSaid :=
  Claim7.holds_tied_plain_at .later [] [.data, .data, .data] true (true, "5fb048d045625182b10262516d9c4193a6b1e98e8e618b184d271e5fcbaa7853") false (treePartsHolds HQ) (fun _ h => by cases h) (by kernel_rfl) (fun _ h => by cases h) treePartsUpto_row_tie rfl ⟨rfl, rfl⟩ (by kernel_rfl) rfl
    (fun f fn hf hfn => by
      obtain rfl : f = 5 := Option.some.inj ((show Tryz.prog.funcNamed "cocoon/cocoonlaw05.TreeParts" = some 5 by kernel_rfl).symm.trans hf) |>.symm
      obtain rfl : fn = Tryz.f5 := (Option.some.inj (Tryz.func5.symm.trans hfn)).symm
      exact ⟨by kernel_rfl, fun j t ht => by
        rw [Tryz.params5] at ht
        have hm : t ∈ [26] := by simpa using Array.mem_of_getElem? ht
        have hall : ([26].all fun u => !Tryz.prog.wantsStandIn u) = true := by kernel_rfl
        exact (show Tryz.prog.wantsStandIn t = false by simpa using List.all_eq_true.1 hall t hm)⟩)
    (by kernel_rfl)

theorem treeParts_card : Rows.TreePartsUptoCardSaid := treePartsCard fun xs0 n0 hs0 hz0 => by
  obtain ⟨s, rfl, _⟩ := rd_SourceD n0 xs0 hs0
  have h := w_lTreeParts s (wfL_of n0 _ _ hs0) (by omega)
  rw [lTreeParts_true s (by omega)] at h
  simpa [sourceC_eq] using h
end Go.Proofs.YtakfpmogpnoibaaGreatDoor
end
