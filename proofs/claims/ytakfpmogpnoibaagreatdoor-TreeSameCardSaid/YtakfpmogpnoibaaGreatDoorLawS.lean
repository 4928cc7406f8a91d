/- Whether two sources are the same, and whether one could have been read, is just what the document says: TreeSame, tied. No conditions. -/
import Derived.Test.YtakfpmogpnoibaaGreatDoorTie
import Derived.Test.YtakfpmogpnoibaaGreatDoorCards
import Derived.ProofKit
import Derived.OpenShut
import Derived.LaidMore
import Derived.Lay
import Derived.SevenTiedAt
import Derived.Stop.Joined
import Derived.Stop.LaidErr
import Derived.Test.YtakfpmogpnoibaaGreatDoorRefA
import Derived.Test.YtakfpmogpnoibaaGreatDoorMachD
import Derived.Test.YtakfpmogpnoibaaGreatDoorValS
import Derived.Test.YtakfpmogpnoibaaGreatDoorValU
import Derived.Test.YtakfpmogpnoibaaGreatDoorSamT
import Derived.Test.YtakfpmogpnoibaaGreatDoorBldA
import Derived.Test.YtakfpmogpnoibaaGreatDoorSamR
import Derived.Test.YtakfpmogpnoibaaGreatDoorPlaB
set_option linter.unusedVariables false
set_option linter.unusedSimpArgs false
set_option linter.constructorNameAsVariable false
section
namespace Go.Proofs.Tryz
open Go Go.AM
attribute [local simp] wpG_op wpG_nil contG_some wpG_guard guardG_v guardG_o guardG_tup gval pureOp stepG_if isPick pickG_pick pickB_b pickOK isCall step_move step_assign step_alloc step_box boxV_some step_load step_store step_binOp step_unOp step_fieldAddr faV step_indexAddr ixA_slc ixA_arr step_extract extV_tup step_nilCheck ncV_ptr ncV_rp ncV_fn ncV_mp step_build buildV step_buildSlice bsV step_index ixV_arr ixV_str step_append apB step_makeSlice msV_i step_makeFunc over step_len step_makeMap mmV step_mapUpdate step_insert muA_map muB_mp step_lookup lkA_map lkB_mp step_slice slcV_s slcV_sl slcV_ro cutB_some slObV_arr bound_none bound_some bndV_i lenB_str lenB_ro lenB_sl lenB_nil lenB_z ld_ptr ld_rp offV_ptr offV_rp idxV_ro idxV_sl unV_not unV_neg binV_int binV_str binV_eqlb binV_neqb intOp strOp St.put updL setOb St.ev toV St.lk cellsOf AM.valOf TK.agg stv fillV places TI.zero condT_true condT_false finS resL resSlot packV ren ren1 ren0 Value.cells builtinV appendV elemsOf keepT room_of wrap_in toIdx passed Function.comp_def take_len_map lenV touchOf hid tab1 tab2 tab3 tab4 tab5 tab6 tab7 tab8 tab9 tab20 tab22 tab23 tab24 tab26 tab32 tab33 tab35 tab36 tab37 tab39 tab41 tab42 tab43 tab45 tab46 tab47 tab49 tab50 tab52 tab57 tab58 tab60 tab63 tab65 tab66 tab68 tab70 tab74 tab79 tab83 tab86 tab87 tab89 tab92 tab100 tab101 tab102 tab103 tab105 tab107 tab108 tab113 tab114 tab116 tab117 tab118 tab122 tab123 tab125 tab127 tab130 tab132 tab136 tab138 tab139 tab141 tab142 tab144 tab146 tab148 tab173 tab175 tab178 tab179 tab180 tab182 tab189 tab215 tab219 tab220 tab224 tab225 tab241 tab244 tab247 tab253 tab261 tab262 tab265 tab266 armC_eq blockC_eq bodyC_eq enumC_eq fieldC_eq fnC_eq inC_eq localC_eq mirBodyC_eq operC_eq placeC_eq rvC_eq sourceC_eq spotC_eq stepC_eq stmtC_eq structC_eq tmC_eq tyC_eq useC_eq valueC_eq variantC_eq binV_eqls binV_neqs cutL_nil cutL_junk cutL_cons ren_arr ren_gone ren_unborn ren_var ren_row step_convert cvV_i cvV_sl cvV_s cvK_slc cvE_u8 bytesOf bor1 bor2 bor3 bor4
set_option linter.unusedSimpArgs false
set_option linter.unusedVariables false
set_option maxRecDepth 10000
set_option maxHeartbeats 4000000
noncomputable section
set_option linter.unusedVariables false
theorem rd_TyD (k : Nat) (xs : List V) (h : shpW tab k 45 xs) : ∃ x : TyD, xs = tyC x ∧ True := by
  obtain ⟨yss, h1, h2, k', hk, h3⟩ := shpW_fields h (show (tab 45).kind = .str [(0, 42), (1, 9), (2, 43)] from rfl)
  match yss, h2 with
  | [y0, y1, y2], _ =>
    obtain ⟨a0, rfl, b0⟩ := shpW_int (h3 0 _ _ rfl rfl) (show (tab 42).kind = .int .i64 from rfl)
    obtain ⟨a1, rfl, b1⟩ := shpW_str (h3 1 _ _ rfl rfl) (show (tab 9).kind = .string from rfl)
    obtain ⟨a2, rfl, b2, c2⟩ := shpW_slc tyC (fun x => True) (h3 2 _ _ rfl rfl) (show (tab 43).kind = .slc 45 from rfl) (fun k _ l hl => rd_TyD k l hl)
    exact ⟨⟨a0, a1, a2⟩, by rw [h1]; simp [tyC_eq], trivial⟩
termination_by k
decreasing_by all_goals omega

theorem rd_FieldD (k : Nat) (xs : List V) (h : shpW tab k 100 xs) : ∃ x : FieldD, xs = fieldC x ∧ True := by
  obtain ⟨yss, h1, h2, k', hk, h3⟩ := shpW_fields h (show (tab 100).kind = .str [(0, 9), (1, 45)] from rfl)
  match yss, h2 with
  | [y0, y1], _ =>
    obtain ⟨a0, rfl, b0⟩ := shpW_str (h3 0 _ _ rfl rfl) (show (tab 9).kind = .string from rfl)
    obtain ⟨a1, rfl, b1⟩ := rd_TyD _ _ (h3 1 _ _ rfl rfl)
    exact ⟨⟨a0, a1⟩, by rw [h1]; simp [fieldC_eq], trivial⟩

theorem rd_StructD (k : Nat) (xs : List V) (h : shpW tab k 86 xs) : ∃ x : StructD, xs = structC x ∧ True := by
  obtain ⟨yss, h1, h2, k', hk, h3⟩ := shpW_fields h (show (tab 86).kind = .str [(0, 9), (1, 4), (2, 33), (3, 3)] from rfl)
  match yss, h2 with
  | [y0, y1, y2, y3], _ =>
    obtain ⟨a0, rfl, b0⟩ := shpW_str (h3 0 _ _ rfl rfl) (show (tab 9).kind = .string from rfl)
    obtain ⟨a1, rfl⟩ := shpW_bool (h3 1 _ _ rfl rfl) (show (tab 4).kind = .bool from rfl)
    obtain ⟨a2, rfl, b2, c2⟩ := shpW_slc fieldC (fun x => True) (h3 2 _ _ rfl rfl) (show (tab 33).kind = .slc 100 from rfl) (fun k _ l hl => rd_FieldD k l hl)
    obtain ⟨a3, rfl, b3⟩ := shpW_int (h3 3 _ _ rfl rfl) (show (tab 3).kind = .int .i64 from rfl)
    exact ⟨⟨a0, a1, a2, a3⟩, by rw [h1]; simp [structC_eq], trivial⟩

theorem rd_VariantD (k : Nat) (xs : List V) (h : shpW tab k 92 xs) : ∃ x : VariantD, xs = variantC x ∧ True := by
  obtain ⟨yss, h1, h2, k', hk, h3⟩ := shpW_fields h (show (tab 92).kind = .str [(0, 9), (1, 45)] from rfl)
  match yss, h2 with
  | [y0, y1], _ =>
    obtain ⟨a0, rfl, b0⟩ := shpW_str (h3 0 _ _ rfl rfl) (show (tab 9).kind = .string from rfl)
    obtain ⟨a1, rfl, b1⟩ := rd_TyD _ _ (h3 1 _ _ rfl rfl)
    exact ⟨⟨a0, a1⟩, by rw [h1]; simp [variantC_eq], trivial⟩

theorem rd_EnumD (k : Nat) (xs : List V) (h : shpW tab k 89 xs) : ∃ x : EnumD, xs = enumC x ∧ True := by
  obtain ⟨yss, h1, h2, k', hk, h3⟩ := shpW_fields h (show (tab 89).kind = .str [(0, 9), (1, 87), (2, 3)] from rfl)
  match yss, h2 with
  | [y0, y1, y2], _ =>
    obtain ⟨a0, rfl, b0⟩ := shpW_str (h3 0 _ _ rfl rfl) (show (tab 9).kind = .string from rfl)
    obtain ⟨a1, rfl, b1, c1⟩ := shpW_slc variantC (fun x => True) (h3 1 _ _ rfl rfl) (show (tab 87).kind = .slc 92 from rfl) (fun k _ l hl => rd_VariantD k l hl)
    obtain ⟨a2, rfl, b2⟩ := shpW_int (h3 2 _ _ rfl rfl) (show (tab 3).kind = .int .i64 from rfl)
    exact ⟨⟨a0, a1, a2⟩, by rw [h1]; simp [enumC_eq], trivial⟩

theorem rd_StepD (k : Nat) (xs : List V) (h : shpW tab k 79 xs) : ∃ x : StepD, xs = stepC x ∧ True := by
  obtain ⟨yss, h1, h2, k', hk, h3⟩ := shpW_fields h (show (tab 79).kind = .str [(0, 9)] from rfl)
  match yss, h2 with
  | [y0], _ =>
    obtain ⟨a0, rfl, b0⟩ := shpW_str (h3 0 _ _ rfl rfl) (show (tab 9).kind = .string from rfl)
    exact ⟨⟨a0⟩, by rw [h1]; simp [stepC_eq], trivial⟩

theorem rd_PlaceD (k : Nat) (xs : List V) (h : shpW tab k 39 xs) : ∃ x : PlaceD, xs = placeC x ∧ True := by
  obtain ⟨yss, h1, h2, k', hk, h3⟩ := shpW_fields h (show (tab 39).kind = .str [(0, 9), (1, 37)] from rfl)
  match yss, h2 with
  | [y0, y1], _ =>
    obtain ⟨a0, rfl, b0⟩ := shpW_str (h3 0 _ _ rfl rfl) (show (tab 9).kind = .string from rfl)
    obtain ⟨a1, rfl, b1, c1⟩ := shpW_slc stepC (fun x => True) (h3 1 _ _ rfl rfl) (show (tab 37).kind = .slc 79 from rfl) (fun k _ l hl => rd_StepD k l hl)
    exact ⟨⟨a0, a1⟩, by rw [h1]; simp [placeC_eq], trivial⟩

theorem rd_OperD (k : Nat) (xs : List V) (h : shpW tab k 41 xs) : ∃ x : OperD, xs = operC x ∧ True := by
  obtain ⟨yss, h1, h2, k', hk, h3⟩ := shpW_fields h (show (tab 41).kind = .str [(0, 4), (1, 3), (2, 39)] from rfl)
  match yss, h2 with
  | [y0, y1, y2], _ =>
    obtain ⟨a0, rfl⟩ := shpW_bool (h3 0 _ _ rfl rfl) (show (tab 4).kind = .bool from rfl)
    obtain ⟨a1, rfl, b1⟩ := shpW_int (h3 1 _ _ rfl rfl) (show (tab 3).kind = .int .i64 from rfl)
    obtain ⟨a2, rfl, b2⟩ := rd_PlaceD _ _ (h3 2 _ _ rfl rfl)
    exact ⟨⟨a0, a1, a2⟩, by rw [h1]; simp [operC_eq], trivial⟩

theorem rd_RvD (k : Nat) (xs : List V) (h : shpW tab k 49 xs) : ∃ x : RvD, xs = rvC x ∧ True := by
  obtain ⟨yss, h1, h2, k', hk, h3⟩ := shpW_fields h (show (tab 49).kind = .str [(0, 46), (1, 47), (2, 39), (4, 9), (5, 9)] from rfl)
  match yss, h2 with
  | [y0, y1, y2, y3, y4], _ =>
    obtain ⟨a0, rfl, b0⟩ := shpW_int (h3 0 _ _ rfl rfl) (show (tab 46).kind = .int .i64 from rfl)
    obtain ⟨a1, rfl, b1, c1⟩ := shpW_slc operC (fun x => True) (h3 1 _ _ rfl rfl) (show (tab 47).kind = .slc 41 from rfl) (fun k _ l hl => rd_OperD k l hl)
    obtain ⟨a2, rfl, b2⟩ := rd_PlaceD _ _ (h3 2 _ _ rfl rfl)
    obtain ⟨a3, rfl, b3⟩ := shpW_str (h3 3 _ _ rfl rfl) (show (tab 9).kind = .string from rfl)
    obtain ⟨a4, rfl, b4⟩ := shpW_str (h3 4 _ _ rfl rfl) (show (tab 9).kind = .string from rfl)
    exact ⟨⟨a0, a1, a2, a3, a4⟩, by rw [h1]; simp [rvC_eq], trivial⟩

mutual
theorem rd_ArmD (k : Nat) (xs : List V) (h : shpW tab k 136 xs) : ∃ x : ArmD, xs = armC x ∧ True := by
  obtain ⟨yss, h1, h2, k', hk, h3⟩ := shpW_fields h (show (tab 136).kind = .str [(0, 9), (1, 9), (2, 32)] from rfl)
  match yss, h2 with
  | [y0, y1, y2], _ =>
    obtain ⟨a0, rfl, b0⟩ := shpW_str (h3 0 _ _ rfl rfl) (show (tab 9).kind = .string from rfl)
    obtain ⟨a1, rfl, b1⟩ := shpW_str (h3 1 _ _ rfl rfl) (show (tab 9).kind = .string from rfl)
    obtain ⟨a2, rfl, b2, c2⟩ := shpW_slc stmtC (fun x => True) (h3 2 _ _ rfl rfl) (show (tab 32).kind = .slc 52 from rfl) (fun k _ l hl => rd_StmtD k l hl)
    exact ⟨⟨a0, a1, a2⟩, by rw [h1]; simp [armC_eq], trivial⟩
termination_by k
decreasing_by all_goals omega

theorem rd_StmtD (k : Nat) (xs : List V) (h : shpW tab k 52 xs) : ∃ x : StmtD, xs = stmtC x ∧ True := by
  obtain ⟨yss, h1, h2, k', hk, h3⟩ := shpW_fields h (show (tab 52).kind = .str [(0, 36), (1, 3), (2, 9), (3, 45), (6, 39), (8, 49), (14, 41), (18, 32), (19, 32), (20, 50)] from rfl)
  match yss, h2 with
  | [y0, y1, y2, y3, y4, y5, y6, y7, y8, y9], _ =>
    obtain ⟨a0, rfl, b0⟩ := shpW_int (h3 0 _ _ rfl rfl) (show (tab 36).kind = .int .i64 from rfl)
    obtain ⟨a1, rfl, b1⟩ := shpW_int (h3 1 _ _ rfl rfl) (show (tab 3).kind = .int .i64 from rfl)
    obtain ⟨a2, rfl, b2⟩ := shpW_str (h3 2 _ _ rfl rfl) (show (tab 9).kind = .string from rfl)
    obtain ⟨a3, rfl, b3⟩ := rd_TyD _ _ (h3 3 _ _ rfl rfl)
    obtain ⟨a4, rfl, b4⟩ := rd_PlaceD _ _ (h3 4 _ _ rfl rfl)
    obtain ⟨a5, rfl, b5⟩ := rd_RvD _ _ (h3 5 _ _ rfl rfl)
    obtain ⟨a6, rfl, b6⟩ := rd_OperD _ _ (h3 6 _ _ rfl rfl)
    obtain ⟨a7, rfl, b7, c7⟩ := shpW_slc stmtC (fun x => True) (h3 7 _ _ rfl rfl) (show (tab 32).kind = .slc 52 from rfl) (fun k _ l hl => rd_StmtD k l hl)
    obtain ⟨a8, rfl, b8, c8⟩ := shpW_slc stmtC (fun x => True) (h3 8 _ _ rfl rfl) (show (tab 32).kind = .slc 52 from rfl) (fun k _ l hl => rd_StmtD k l hl)
    obtain ⟨a9, rfl, b9, c9⟩ := shpW_slc armC (fun x => True) (h3 9 _ _ rfl rfl) (show (tab 50).kind = .slc 136 from rfl) (fun k _ l hl => rd_ArmD k l hl)
    exact ⟨⟨a0, a1, a2, a3, a4, a5, a6, a7, a8, a9⟩, by rw [h1]; simp [stmtC_eq], trivial⟩
termination_by k
decreasing_by all_goals omega
end

theorem rd_FnD (k : Nat) (xs : List V) (h : shpW tab k 35 xs) : ∃ x : FnD, xs = fnC x ∧ True := by
  obtain ⟨yss, h1, h2, k', hk, h3⟩ := shpW_fields h (show (tab 35).kind = .str [(0, 9), (1, 33), (2, 32), (3, 3)] from rfl)
  match yss, h2 with
  | [y0, y1, y2, y3], _ =>
    obtain ⟨a0, rfl, b0⟩ := shpW_str (h3 0 _ _ rfl rfl) (show (tab 9).kind = .string from rfl)
    obtain ⟨a1, rfl, b1, c1⟩ := shpW_slc fieldC (fun x => True) (h3 1 _ _ rfl rfl) (show (tab 33).kind = .slc 100 from rfl) (fun k _ l hl => rd_FieldD k l hl)
    obtain ⟨a2, rfl, b2, c2⟩ := shpW_slc stmtC (fun x => True) (h3 2 _ _ rfl rfl) (show (tab 32).kind = .slc 52 from rfl) (fun k _ l hl => rd_StmtD k l hl)
    obtain ⟨a3, rfl, b3⟩ := shpW_int (h3 3 _ _ rfl rfl) (show (tab 3).kind = .int .i64 from rfl)
    exact ⟨⟨a0, a1, a2, a3⟩, by rw [h1]; simp [fnC_eq], trivial⟩

theorem rd_SourceD (k : Nat) (xs : List V) (h : shpW tab k 26 xs) : ∃ x : SourceD, xs = sourceC x ∧ True := by
  obtain ⟨yss, h1, h2, k', hk, h3⟩ := shpW_fields h (show (tab 26).kind = .str [(0, 22), (1, 23), (2, 24)] from rfl)
  match yss, h2 with
  | [y0, y1, y2], _ =>
    obtain ⟨a0, rfl, b0, c0⟩ := shpW_slc structC (fun x => True) (h3 0 _ _ rfl rfl) (show (tab 22).kind = .slc 86 from rfl) (fun k _ l hl => rd_StructD k l hl)
    obtain ⟨a1, rfl, b1, c1⟩ := shpW_slc enumC (fun x => True) (h3 1 _ _ rfl rfl) (show (tab 23).kind = .slc 89 from rfl) (fun k _ l hl => rd_EnumD k l hl)
    obtain ⟨a2, rfl, b2, c2⟩ := shpW_slc fnC (fun x => True) (h3 2 _ _ rfl rfl) (show (tab 24).kind = .slc 35 from rfl) (fun k _ l hl => rd_FnD k l hl)
    exact ⟨⟨a0, a1, a2⟩, by rw [h1]; simp [sourceC_eq], trivial⟩

def lTreeSame (p0 : SourceD) (p1 : SourceD) : Bool :=
 (if ((zLarge p0 400) = true) ∨ ((zLarge p1 400) = true) then true else (((((tSame p0 p1) == (rSame p0 p1)) && ((tSame p1 p0) == (rSame p0 p1))) && (tSame p0 p0)) && ((tValid05 p0) == (rValid05 p0))))
set_option maxHeartbeats 40000000 in
theorem w_lTreeSame (p0 : SourceD) (p1 : SourceD)  : QC prog 3 [.agg [.ro 4 (p0.structs.map structC), .ro 3 (p0.enums.map enumC), .ro 4 (p0.fns.map fnC)], .agg [.ro 4 (p1.structs.map structC), .ro 3 (p1.enums.map enumC), .ro 4 (p1.fns.map fnC)]] [] (.b (lTreeSame p0 p1)) [] := by
 refine QC.of_body tabOK func3 rfl (by kernel_rfl) ?_
 simp only [f3]
 generalize e : lTreeSame p0 p1 = R
 unfold lTreeSame at e
 refine EV.seq (EV.regionG tabOK ?_)
 simp (maxSteps := 2000000) -implicitDefEqProofs
 refine EV.seq (EV.regionG tabOK ?_)
 simp (maxSteps := 2000000) -implicitDefEqProofs
 refine callG_fun (w_works05) ?_ ?_
 ·simp
 simp (maxSteps := 2000000) -implicitDefEqProofs
 refine EV.seq (EV.seq (EV.regionG tabOK ?_))
 simp (maxSteps := 2000000) -implicitDefEqProofs
 refine EV.condT ?_
 simp -implicitDefEqProofs
 refine EV.skip ?_
 simp only [thenK_normal, blockK_normal, scopeK_normal]
 refine EV.seq (EV.regionG tabOK ?_)
 simp (maxSteps := 2000000) -implicitDefEqProofs
 refine callG_fun (w_zLarge p0 400) ?_ ?_
 ·simp
 simp (maxSteps := 2000000) -implicitDefEqProofs
 refine EV.seq (EV.regionG tabOK ?_)
 simp (maxSteps := 2000000) -implicitDefEqProofs
 refine callG_fun (w_zLarge p1 400) ?_ ?_
 ·simp
 simp (maxSteps := 2000000) -implicitDefEqProofs
 refine EV.seq (EV.seq (EV.regionG tabOK ?_))
 simp (maxSteps := 2000000) -implicitDefEqProofs +contextual
 refine EV.condT ?_
 simp -implicitDefEqProofs
 refine condT_intro (fun k1 => ?_) (fun k1 => ?_)
 ·try simp at k1
  obtain ⟨f1, e⟩ := pos_on2 e (by first | simpa using k1 | grind)
  try simp at f1
  refine EV.seq (EV.regionG tabOK ?_)
  simp (maxSteps := 2000000) -implicitDefEqProofs
  refine EV.ret ?_
  simp only [thenK_ret, blockK_ret, scopeK_ret, bodyK_ret]
  subst e
  refine Fin.pure0 ?_
  first | (simp; done) | (simp <;> grind)
 ·try simp at k1
  obtain ⟨f1, e⟩ := neg_on2 e (by first | simpa using k1 | grind)
  try simp at f1
  refine EV.skip ?_
  simp only [thenK_normal, blockK_normal, scopeK_normal]
  refine EV.seq (EV.regionG tabOK ?_)
  simp (maxSteps := 2000000) -implicitDefEqProofs
  refine callG_fun (w_rSame p0 p1) ?_ ?_
  ·simp
  simp (maxSteps := 2000000) -implicitDefEqProofs
  refine EV.seq (EV.regionG tabOK ?_)
  simp (maxSteps := 2000000) -implicitDefEqProofs
  refine callG_fun (w_rValid05 p0) ?_ ?_
  ·simp
  simp (maxSteps := 2000000) -implicitDefEqProofs
  refine EV.seq ?_
  refine EV.nrm (fun _ : Unit => (⟨[J, J, J, J, .b (((((tSame p0 p1) == (rSame p0 p1)) && ((tSame p1 p0) == (rSame p0 p1))) && (tSame p0 p0)) && ((tValid05 p0) == (rValid05 p0))), J, J, J, J, J, J, J, J, J, J, J, J, J, J, J, J, J, J, J, J, J, J, J, J, J, J, J, J, J, J, J, J, J, J, J, J, J, J, J, J, J, J, J, J, J, J, J, J], []⟩ : St)) ?_ ?_
  ·skip
   cases k3 : (tSame p0 p1)
   ·skip
    have kk3 := k3
    try simp at kk3
    cases k4 : (rSame p0 p1)
    ·skip
     have kk4 := k4
     try simp at kk4
     cases k5 : (tSame p1 p0)
     ·skip
      have kk5 := k5
      try simp at kk5
      cases k6 : (tSame p0 p0)
      ·skip
       have kk6 := k6
       try simp at kk6
       refine EV.regionG tabOK ?_
       simp (maxSteps := 2000000) -implicitDefEqProofs +contextual [k3, kk3, k4, kk4, k5, kk5, k6, kk6]
       refine callG_fun (w_tSame p0 p1) ?_ ?_
       ·first | (simp; done) | (simp [k3, kk3, k4, kk4, k5, kk5, k6, kk6]; done)
       simp (maxSteps := 2000000) -implicitDefEqProofs +contextual [k3, kk3, k4, kk4, k5, kk5, k6, kk6]
       refine callG_fun (w_tSame p1 p0) ?_ ?_
       ·first | (simp; done) | (simp [k3, kk3, k4, kk4, k5, kk5, k6, kk6]; done)
       simp (maxSteps := 2000000) -implicitDefEqProofs +contextual [k3, kk3, k4, kk4, k5, kk5, k6, kk6]
       refine callG_fun (w_tSame p0 p0) ?_ ?_
       ·first | (simp; done) | (simp [k3, kk3, k4, kk4, k5, kk5, k6, kk6]; done)
       simp (maxSteps := 2000000) -implicitDefEqProofs +contextual [k3, kk3, k4, kk4, k5, kk5, k6, kk6]
       refine ⟨(), ?_⟩
       try dsimp only
       refine Sub.cutF 0 (by simp) ?_ ?_ <;> simp [List.range_succ, toIdx_range, passed, k3, kk3, k4, kk4, k5, kk5, k6, kk6]
      have kk6 := k6
      try simp at kk6
      refine EV.regionG tabOK ?_
      simp (maxSteps := 2000000) -implicitDefEqProofs +contextual [k3, kk3, k4, kk4, k5, kk5, k6, kk6]
      refine callG_fun (w_tSame p0 p1) ?_ ?_
      ·first | (simp; done) | (simp [k3, kk3, k4, kk4, k5, kk5, k6, kk6]; done)
      simp (maxSteps := 2000000) -implicitDefEqProofs +contextual [k3, kk3, k4, kk4, k5, kk5, k6, kk6]
      refine callG_fun (w_tSame p1 p0) ?_ ?_
      ·first | (simp; done) | (simp [k3, kk3, k4, kk4, k5, kk5, k6, kk6]; done)
      simp (maxSteps := 2000000) -implicitDefEqProofs +contextual [k3, kk3, k4, kk4, k5, kk5, k6, kk6]
      refine callG_fun (w_tSame p0 p0) ?_ ?_
      ·first | (simp; done) | (simp [k3, kk3, k4, kk4, k5, kk5, k6, kk6]; done)
      simp (maxSteps := 2000000) -implicitDefEqProofs +contextual [k3, kk3, k4, kk4, k5, kk5, k6, kk6]
      refine callG_fun (w_tValid05 p0) ?_ ?_
      ·first | (simp; done) | (simp [k3, kk3, k4, kk4, k5, kk5, k6, kk6]; done)
      simp (maxSteps := 2000000) -implicitDefEqProofs +contextual [k3, kk3, k4, kk4, k5, kk5, k6, kk6]
      refine ⟨(), ?_⟩
      try dsimp only
      refine Sub.cutF 0 (by simp) ?_ ?_ <;> simp [List.range_succ, toIdx_range, passed, k3, kk3, k4, kk4, k5, kk5, k6, kk6]
     have kk5 := k5
     try simp at kk5
     refine EV.regionG tabOK ?_
     simp (maxSteps := 2000000) -implicitDefEqProofs +contextual [k3, kk3, k4, kk4, k5, kk5]
     refine callG_fun (w_tSame p0 p1) ?_ ?_
     ·first | (simp; done) | (simp [k3, kk3, k4, kk4, k5, kk5]; done)
     simp (maxSteps := 2000000) -implicitDefEqProofs +contextual [k3, kk3, k4, kk4, k5, kk5]
     refine callG_fun (w_tSame p1 p0) ?_ ?_
     ·first | (simp; done) | (simp [k3, kk3, k4, kk4, k5, kk5]; done)
     simp (maxSteps := 2000000) -implicitDefEqProofs +contextual [k3, kk3, k4, kk4, k5, kk5]
     refine ⟨(), ?_⟩
     try dsimp only
     refine Sub.cutF 0 (by simp) ?_ ?_ <;> simp [List.range_succ, toIdx_range, passed, k3, kk3, k4, kk4, k5, kk5]
    have kk4 := k4
    try simp at kk4
    refine EV.regionG tabOK ?_
    simp (maxSteps := 2000000) -implicitDefEqProofs +contextual [k3, kk3, k4, kk4]
    refine callG_fun (w_tSame p0 p1) ?_ ?_
    ·first | (simp; done) | (simp [k3, kk3, k4, kk4]; done)
    simp (maxSteps := 2000000) -implicitDefEqProofs +contextual [k3, kk3, k4, kk4]
    refine ⟨(), ?_⟩
    try dsimp only
    refine Sub.cutF 0 (by simp) ?_ ?_ <;> simp [List.range_succ, toIdx_range, passed, k3, kk3, k4, kk4]
   have kk3 := k3
   try simp at kk3
   cases k7 : (rSame p0 p1)
   ·skip
    have kk7 := k7
    try simp at kk7
    refine EV.regionG tabOK ?_
    simp (maxSteps := 2000000) -implicitDefEqProofs +contextual [k3, kk3, k7, kk7]
    refine callG_fun (w_tSame p0 p1) ?_ ?_
    ·first | (simp; done) | (simp [k3, kk3, k7, kk7]; done)
    simp (maxSteps := 2000000) -implicitDefEqProofs +contextual [k3, kk3, k7, kk7]
    refine ⟨(), ?_⟩
    try dsimp only
    refine Sub.cutF 0 (by simp) ?_ ?_ <;> simp [List.range_succ, toIdx_range, passed, k3, kk3, k7, kk7]
   have kk7 := k7
   try simp at kk7
   cases k8 : (tSame p1 p0)
   ·skip
    have kk8 := k8
    try simp at kk8
    refine EV.regionG tabOK ?_
    simp (maxSteps := 2000000) -implicitDefEqProofs +contextual [k3, kk3, k7, kk7, k8, kk8]
    refine callG_fun (w_tSame p0 p1) ?_ ?_
    ·first | (simp; done) | (simp [k3, kk3, k7, kk7, k8, kk8]; done)
    simp (maxSteps := 2000000) -implicitDefEqProofs +contextual [k3, kk3, k7, kk7, k8, kk8]
    refine callG_fun (w_tSame p1 p0) ?_ ?_
    ·first | (simp; done) | (simp [k3, kk3, k7, kk7, k8, kk8]; done)
    simp (maxSteps := 2000000) -implicitDefEqProofs +contextual [k3, kk3, k7, kk7, k8, kk8]
    refine ⟨(), ?_⟩
    try dsimp only
    refine Sub.cutF 0 (by simp) ?_ ?_ <;> simp [List.range_succ, toIdx_range, passed, k3, kk3, k7, kk7, k8, kk8]
   have kk8 := k8
   try simp at kk8
   cases k9 : (tSame p0 p0)
   ·skip
    have kk9 := k9
    try simp at kk9
    refine EV.regionG tabOK ?_
    simp (maxSteps := 2000000) -implicitDefEqProofs +contextual [k3, kk3, k7, kk7, k8, kk8, k9, kk9]
    refine callG_fun (w_tSame p0 p1) ?_ ?_
    ·first | (simp; done) | (simp [k3, kk3, k7, kk7, k8, kk8, k9, kk9]; done)
    simp (maxSteps := 2000000) -implicitDefEqProofs +contextual [k3, kk3, k7, kk7, k8, kk8, k9, kk9]
    refine callG_fun (w_tSame p1 p0) ?_ ?_
    ·first | (simp; done) | (simp [k3, kk3, k7, kk7, k8, kk8, k9, kk9]; done)
    simp (maxSteps := 2000000) -implicitDefEqProofs +contextual [k3, kk3, k7, kk7, k8, kk8, k9, kk9]
    refine callG_fun (w_tSame p0 p0) ?_ ?_
    ·first | (simp; done) | (simp [k3, kk3, k7, kk7, k8, kk8, k9, kk9]; done)
    simp (maxSteps := 2000000) -implicitDefEqProofs +contextual [k3, kk3, k7, kk7, k8, kk8, k9, kk9]
    refine ⟨(), ?_⟩
    try dsimp only
    refine Sub.cutF 0 (by simp) ?_ ?_ <;> simp [List.range_succ, toIdx_range, passed, k3, kk3, k7, kk7, k8, kk8, k9, kk9]
   have kk9 := k9
   try simp at kk9
   refine EV.regionG tabOK ?_
   simp (maxSteps := 2000000) -implicitDefEqProofs +contextual [k3, kk3, k7, kk7, k8, kk8, k9, kk9]
   refine callG_fun (w_tSame p0 p1) ?_ ?_
   ·first | (simp; done) | (simp [k3, kk3, k7, kk7, k8, kk8, k9, kk9]; done)
   simp (maxSteps := 2000000) -implicitDefEqProofs +contextual [k3, kk3, k7, kk7, k8, kk8, k9, kk9]
   refine callG_fun (w_tSame p1 p0) ?_ ?_
   ·first | (simp; done) | (simp [k3, kk3, k7, kk7, k8, kk8, k9, kk9]; done)
   simp (maxSteps := 2000000) -implicitDefEqProofs +contextual [k3, kk3, k7, kk7, k8, kk8, k9, kk9]
   refine callG_fun (w_tSame p0 p0) ?_ ?_
   ·first | (simp; done) | (simp [k3, kk3, k7, kk7, k8, kk8, k9, kk9]; done)
   simp (maxSteps := 2000000) -implicitDefEqProofs +contextual [k3, kk3, k7, kk7, k8, kk8, k9, kk9]
   refine callG_fun (w_tValid05 p0) ?_ ?_
   ·first | (simp; done) | (simp [k3, kk3, k7, kk7, k8, kk8, k9, kk9]; done)
   simp (maxSteps := 2000000) -implicitDefEqProofs +contextual [k3, kk3, k7, kk7, k8, kk8, k9, kk9]
   refine ⟨(), ?_⟩
   try dsimp only
   refine Sub.cutF 0 (by simp) ?_ ?_ <;> simp [List.range_succ, toIdx_range, passed, k3, kk3, k7, kk7, k8, kk8, k9, kk9]
  ·skip
   rintro _
   simp only [thenK_normal, blockK_normal, scopeK_normal, bodyK_normal]
   refine EV.ret ?_
   simp only [thenK_ret, blockK_ret, scopeK_ret, bodyK_ret]
   subst e
   refine Fin.pure0 ?_
   first | (simp; done) | (simp <;> grind)
end
end Go.Proofs.Tryz
end
section
namespace Go.Proofs.Tryz
open Go Go.AM
theorem lTreeSame_true (a b : SourceD) : lTreeSame a b = true := by
  unfold lTreeSame
  split
  · rfl
  · rw [tSame_eq, tSame_swap, tSame_refl, valid05_eq]
    simp
end Go.Proofs.Tryz
end
section
namespace Go.Proofs.YtakfpmogpnoibaaGreatDoor
open Go.ChangeShapes Go.WideShapes Go.ChangeAt Go.RowKit Go.AM Go.Proofs.Tryz

theorem ownKnobNone : ownKnob Tryz.prog.godebug = none := by kernel_rfl
theorem laidOutAll : laidOutB Tryz.prog = true := by kernel_rfl
def readT : List TypeId := [3, 4, 9, 22, 23, 24, 26, 32, 33, 35, 36, 37, 39, 41, 42, 43, 45, 46, 47, 49, 50, 52, 79, 86, 87, 89, 92, 100, 136]
theorem readT_closed : closedS tab readT = true := by decide +kernel

theorem gokOf {W : World} {L : List (String × DataW Unit)} (hL : L.drop 2 = [("internal/strconv.uint64pow10", Lib.tabData .u64 Lib.pow10Tab)])
    (hp : (L.all fun x => x.2.handleName?.isNone) = true) (h : laidMetH Tryz.prog L W) : GOK Tryz.prog W (fun _ => False) := by
  rw [MakeChecks.laidMetH_plain _ _ _ hp] at h
  obtain ⟨a, b, rfl⟩ : ∃ a b, L = [a, b, ("internal/strconv.uint64pow10", Lib.tabData .u64 Lib.pow10Tab)] := by
    match L, hL with
    | a :: b :: r, hL => exact ⟨a, b, by rw [show r = _ from hL]⟩
  have h1 := Lib.tabIs_of_head (g := 0) (t := 261) (e := 247) (n := 20) (by kernel_rfl) (by kernel_rfl) (by kernel_rfl) (by kernel_rfl) (by kernel_rfl) (by kernel_rfl) (laidMet.tail (laidMet.tail h))
  intro e he
  obtain rfl := List.mem_singleton.1 he
  refine ⟨h1, fun g hg => ⟨?_, not_false⟩⟩
  unfold Lib.TabIs World.var? at h1
  rw [hg] at h1
  simp only [Option.bind_some] at h1
  rcases Nat.lt_or_ge g W.heap.size with h' | h'
  · exact h'
  · rw [Array.getElem?_eq_none h'] at h1; cases h1
end Go.Proofs.YtakfpmogpnoibaaGreatDoor
end
section
namespace Go.Proofs.YtakfpmogpnoibaaGreatDoor
open Go.ChangeShapes Go.WideShapes Go.ChangeAt Go.RowKit Go.AM Go.Proofs.Tryz

set_option maxRecDepth 100000 in
theorem treeSameLifted (HQ : ∀ (xs0 : List V) (xs1 : List V) (n0 : Nat) (n1 : Nat), shpW tab n0 26 xs0 → shpW tab n1 26 xs1 → QC Tryz.prog 3 [.agg xs0, .agg xs1] [] (.b true) []) (os : Os) (started : os.Started) (H : Type) (enc : TypeId × Value → H) :
    ReturnsInHanded {} Tryz.checked os 3 .any (fun w args => (Rows.treeSameSpec.pre enc Tryz.prog Tryz.f3 Rows.treeSameRow.domain false w args ∧ laidMetH Tryz.prog Rows.treeSameRow.laid w) ∧ sizedMet enc Tryz.prog Tryz.f3 (OpenSpec.ofChange Rows.treeSameSpec) false w args)
      (Rows.treeSameSpec.post enc Tryz.prog Tryz.f3 false true false false) := by
  refine returnsInHanded_of_change_and (C := Tryz.checked) (X := fun w _ => laidMetH Tryz.prog Rows.treeSameRow.laid w) (fun _ _ _ hh h => h.of_heap hh) ownKnobNone started (by kernel_rfl) Tryz.func3
    (ChangeSpec.witness_shaped (enc := enc) (C := Tryz.checked) (os := os) (X := fun w _ => laidMetH Tryz.prog Rows.treeSameRow.laid w) false (World.laidAll Tryz.prog os Rows.treeSameRow.laid) #[.agg #[.slice none 0 0, .slice none 0 0, .slice none 0 0], .agg #[.slice none 0 0, .slice none 0 0, .slice none 0 0]] 8 (World.laidAll_os _ _ _)
      (World.shaped_of_ZipB (by kernel_rfl) (by kernel_rfl)) (by kernel_rfl) (by kernel_rfl) (by kernel_rfl)
      (by rw [MakeChecks.laidMetH_plain _ _ _ (by kernel_rfl)]; exact laidMet_laidAll _ (by kernel_rfl) (by kernel_rfl))) ?_
  intro W base args ds gs before hval0 hW _ hwt hL _
  have hval : ∀ (j : Nat) t v, Tryz.f3.params[j]? = some t → args[j]? = some v → Value.okWide Tryz.prog W .any base t v := hval0
  have hW' := hW
  obtain ⟨p, q, hA0, hV, rfl, _, _⟩ := hW
  have hA : DataW.TrodAll enc Tryz.prog W 0 (fun _ => true) true Tryz.f3.params.toList args.toList ds p := hA0
  rw [Tryz.params3] at hA hval
  have hw : ∀ x ∈ DataW.weightsEach Tryz.prog (Tryz.f3.params.toList ++ Rows.treeSameSpec.plain.varTypes Tryz.prog) (ds ++ gs), x ≤ reachBytes := fun x hx => of_decide_eq_true (List.all_eq_true.1 hwt x hx)
  obtain ⟨v0, v1, d0, d1, p0, p1, rfl, rfl, rfl, h0, h1⟩ := trodAll_two hA
  obtain ⟨rfl, rfl⟩ := trodVars_none hV
  rw [Tryz.params3] at hw
  have hw0 : ∀ q ∈ d0.weights Tryz.prog 26, q ≤ reachBytes := fun q hq => hw q (DataW.weights_mem_each (j := 0) rfl rfl q hq)
  have hw1 : ∀ q ∈ d1.weights Tryz.prog 26, q ≤ reachBytes := fun q hq => hw q (DataW.weights_mem_each (j := 1) rfl rfl q hq)
  simp only [List.append_nil] at hW'
  have hlt : ∀ x ∈ p0 ++ p1, x.block < W.heap.size := fun x hx => by simpa using hW'.lt x (by simpa using hx)
  obtain ⟨xs0, ⟨n0, hs0⟩, hr0⟩ := arg_structW tabOK (T := tab) (t := 26) (S := readT) readT_closed rfl (by decide) (hval 0 26 v0 rfl rfl) h0 hw0
  obtain ⟨xs1, ⟨n1, hs1⟩, hr1⟩ := arg_structW tabOK (T := tab) (t := 26) (S := readT) readT_closed rfl (by decide) (hval 1 26 v1 rfl rfl) h1 hw1
  refine ((HQ xs0 xs1 n0 n1 hs0 hs1).truth (gokOf (L := Rows.treeSameRow.laid) (by kernel_rfl) (by kernel_rfl) hL) (vs := #[v0, v1]) (W := W) rfl (fun ok hok D j x u hx hu => ?_)).mono fun e W' ⟨he, hb⟩ => ?_
  · match j with
    | 0 =>
      simp only [List.getElem?_cons_succ, List.getElem?_cons_zero, Option.some.injEq] at hx
      subst hx
      obtain rfl : v0 = u := by simpa using hu
      exact hr0 ok hok D
    | 1 =>
      simp only [List.getElem?_cons_succ, List.getElem?_cons_zero, Option.some.injEq] at hx
      subst hx
      obtain rfl : v1 = u := by simpa using hu
      exact hr1 ok hok D
    | j + 2 => simp at hx
  · subst he
    refine ⟨_, rfl, _, _, _, [], p0 ++ p1, [], by simpa using hW', ?_, ?_, ?_, hb.frame _, fun h => by cases h⟩
    · exact trodAll_mk1 (shut_bool Tryz.underlying4 true)
    · have hpl : p0 ++ (p1) = p0 ++ p1 := by simp
      rw [← hpl]
      exact trodAll_mk2 (Below.trod laidOutAll (by kernel_rfl) (of_decide_eq_true (by kernel_rfl)) h0 hb (fun x hx => hlt x (by simp [hx]))) (Below.trod laidOutAll (by kernel_rfl) (of_decide_eq_true (by kernel_rfl)) h1 hb (fun x hx => hlt x (by simp [hx])))
    · rfl

theorem treeSameHolds (HQ : ∀ (xs0 : List V) (xs1 : List V) (n0 : Nat) (n1 : Nat), shpW tab n0 26 xs0 → shpW tab n1 26 xs1 → QC Tryz.prog 3 [.agg xs0, .agg xs1] [] (.b true) []) : Rows.TreeSameSaid :=
  OpenClaim.holds_of_wide 3 Tryz.f3 rfl rfl rfl rfl rfl rfl rfl ⟨rfl, rfl, rfl, rfl, rfl⟩ rfl rfl rfl rfl rfl (by kernel_rfl) Tryz.func3 (by kernel_rfl)
    (of_decide_eq_true (by kernel_rfl)) (by unfold Func.isWrapper; rw [if_neg (by decide +kernel)]; exact ⟨rfl, rfl⟩)
    (fun os started H enc _ => treeSameLifted HQ os started H enc)

theorem treeSameCard (HQ : ∀ (xs0 : List V) (xs1 : List V) (n0 : Nat) (n1 : Nat), shpW tab n0 26 xs0 → shpW tab n1 26 xs1 → QC Tryz.prog 3 [.agg xs0, .agg xs1] [] (.b true) []) : Rows.TreeSameCardSaid :=
  Claim7.holds_tied_plain_at .later [] [.data, .data, .data] true (true, "5fb048d045625182b10262516d9c4193a6b1e98e8e618b184d271e5fcbaa7853") false (treeSameHolds HQ) (fun _ h => by cases h) (by kernel_rfl) (fun _ h => by cases h) treeSame_row_tie rfl ⟨rfl, rfl⟩ (by kernel_rfl) rfl
    (fun f fn hf hfn => by
      obtain rfl : f = 3 := Option.some.inj ((show Tryz.prog.funcNamed "cocoon/cocoonlaw05.TreeSame" = some 3 by kernel_rfl).symm.trans hf) |>.symm
      obtain rfl : fn = Tryz.f3 := (Option.some.inj (Tryz.func3.symm.trans hfn)).symm
      exact ⟨by kernel_rfl, fun j t ht => by
        rw [Tryz.params3] at ht
        have hm : t ∈ [26, 26] := by simpa using Array.mem_of_getElem? ht
        have hall : ([26, 26].all fun u => !Tryz.prog.wantsStandIn u) = true := by kernel_rfl
        exact (show Tryz.prog.wantsStandIn t = false by simpa using List.all_eq_true.1 hall t hm)⟩)
    (by kernel_rfl)

theorem treeSame_card : Rows.TreeSameCardSaid := treeSameCard fun xs0 xs1 n0 n1 hs0 hs1 => by
  obtain ⟨s, rfl, _⟩ := rd_SourceD n0 xs0 hs0
  obtain ⟨u, rfl, _⟩ := rd_SourceD n1 xs1 hs1
  have h := w_lTreeSame s u
  rw [lTreeSame_true] at h
  simpa [sourceC_eq] using h
end Go.Proofs.YtakfpmogpnoibaaGreatDoor
end
