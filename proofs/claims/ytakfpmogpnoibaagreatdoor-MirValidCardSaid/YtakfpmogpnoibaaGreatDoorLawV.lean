/- Which bodies may be is just what the document says: MirValid, tied. No conditions. -/
import Derived.Test.YtakfpmogpnoibaaGreatDoorTie
import Derived.Test.YtakfpmogpnoibaaGreatDoorCards
import Derived.ProofKit
import Derived.OpenShut
import Derived.LaidMore
import Derived.Lay
import Derived.SevenTiedAt
import Derived.Stop.Joined
import Derived.Stop.LaidErr
import Derived.Test.YtakfpmogpnoibaaGreatDoorRefE
import Derived.Test.YtakfpmogpnoibaaGreatDoorMirD
import Derived.Test.YtakfpmogpnoibaaGreatDoorSizA
import Derived.Test.YtakfpmogpnoibaaGreatDoorBldA
import Derived.Test.YtakfpmogpnoibaaGreatDoorRefA
import Derived.Test.YtakfpmogpnoibaaGreatDoorMachD
import Derived.Test.YtakfpmogpnoibaaGreatDoorPlaV
set_option linter.unusedVariables false
set_option linter.unusedSimpArgs false
set_option linter.constructorNameAsVariable false
section
namespace Go.Proofs.Tryz
open Go Go.AM
attribute [local simp] wpG_op wpG_nil contG_some wpG_guard guardG_v guardG_o guardG_tup gval pureOp stepG_if isPick pickG_pick pickB_b pickOK isCall step_move step_assign step_alloc step_box boxV_some step_load step_store step_binOp step_unOp step_fieldAddr faV step_indexAddr ixA_slc ixA_arr step_extract extV_tup step_nilCheck ncV_ptr ncV_rp ncV_fn ncV_mp step_build buildV step_buildSlice bsV step_index ixV_arr ixV_str step_append apB step_makeSlice msV_i step_makeFunc over step_len step_makeMap mmV step_mapUpdate step_insert muA_map muB_mp step_lookup lkA_map lkB_mp step_slice slcV_s slcV_sl slcV_ro cutB_some slObV_arr bound_none bound_some bndV_i lenB_str lenB_ro lenB_sl lenB_nil lenB_z ld_ptr ld_rp offV_ptr offV_rp idxV_ro idxV_sl unV_not unV_neg binV_int binV_str binV_eqlb binV_neqb intOp strOp St.put updL setOb St.ev toV St.lk cellsOf AM.valOf TK.agg stv fillV places TI.zero condT_true condT_false finS resL resSlot packV ren ren1 ren0 Value.cells builtinV appendV elemsOf keepT room_of wrap_in toIdx passed Function.comp_def take_len_map lenV touchOf hid tab1 tab2 tab3 tab4 tab5 tab6 tab7 tab8 tab9 tab10 tab11 tab12 tab13 tab14 tab15 tab16 tab17 tab18 tab19 tab20 tab21 tab22 tab23 tab24 tab25 tab26 tab27 tab28 tab29 tab30 tab31 tab32 tab33 tab34 tab35 tab36 tab37 tab38 tab39 tab40 tab41 tab42 tab43 tab44 tab45 tab46 tab47 tab48 tab49 tab50 tab51 tab52 tab53 tab54 tab55 tab56 tab57 tab58 tab59 tab60 tab61 tab62 tab63 tab64 tab65 tab66 tab67 tab68 tab69 tab70 tab71 tab73 tab74 tab76 tab77 tab78 tab79 tab80 tab81 tab82 tab83 tab84 tab85 tab86 tab87 tab88 tab89 tab90 tab91 tab92 tab93 tab94 tab95 tab96 tab97 tab98 tab99 tab100 tab101 tab102 tab103 tab104 tab105 tab106 tab107 tab108 tab109 tab110 tab111 tab112 tab113 tab114 tab115 tab116 tab117 tab118 tab119 tab120 tab121 tab122 tab123 tab124 tab125 tab126 tab127 tab128 tab129 tab130 tab131 tab132 tab133 tab134 tab135 tab136 tab137 tab138 tab139 tab140 tab141 tab142 tab143 tab144 tab145 tab146 tab147 tab148 tab149 tab150 tab151 tab152 tab153 tab154 tab155 tab156 tab157 tab158 tab159 tab160 tab161 tab162 tab163 tab164 tab165 tab166 tab167 tab168 tab169 tab170 tab171 tab172 tab173 tab174 tab175 tab176 tab177 tab178 tab179 tab180 tab181 tab182 tab184 tab185 tab186 tab187 tab188 tab189 tab190 tab191 tab192 tab193 tab194 tab195 tab196 tab197 tab199 tab200 tab201 tab202 tab203 tab205 tab206 tab208 tab209 tab210 tab211 tab212 tab213 tab214 tab215 tab216 tab217 tab218 tab219 tab220 tab221 tab222 tab223 tab224 tab225 tab227 tab228 tab229 tab230 tab231 tab232 tab233 tab234 tab235 tab236 tab237 tab238 tab239 tab240 tab241 tab243 tab244 tab246 tab247 tab249 tab250 tab251 tab252 tab253 tab254 tab255 tab257 tab258 tab259 tab260 tab261 tab262 tab263 tab264 tab265 tab266 tab267 tab268 tab272 tab273 tab274 tab275 tab276 tab277 tab278 armC_eq blockC_eq bodyC_eq enumC_eq fieldC_eq fnC_eq inC_eq localC_eq mirBodyC_eq operC_eq placeC_eq rvC_eq sourceC_eq spotC_eq stepC_eq stmtC_eq structC_eq tmC_eq tyC_eq useC_eq valueC_eq variantC_eq cutL_nil cutL_junk cutL_cons ren_arr ren_gone ren_unborn ren_var ren_row step_convert cvV_i cvV_sl cvV_s cvK_slc cvE_u8 bytesOf bor1 bor2 bor3 bor4
set_option linter.unusedSimpArgs false
set_option linter.unusedVariables false
set_option maxRecDepth 10000
set_option maxHeartbeats 4000000
noncomputable section

def lMirValid (p0 : SourceD) (p1 : BodyD) : Bool :=
 (if ((zLarge p0 250) = true) ∨ ((zOver p1 250) = true) then true else ((mValid p0 p1) == (rMirValid p0 p1)))
set_option maxHeartbeats 40000000 in
theorem w_lMirValid (p0 : SourceD) (p1 : BodyD) (hs : SrcOK p0) : QC prog 8 [.agg [.ro 4 (p0.structs.map structC), .ro 3 (p0.enums.map enumC), .ro 4 (p0.fns.map fnC)], .agg [.s p1.name, .i .i64 p1.params, .ro 4 (p1.locals.map localC), .ro 17 (p1.blocks.map blockC)]] [] (.b (lMirValid p0 p1)) [] := by
 refine QC.of_body tabOK func8 rfl (by kernel_rfl) ?_
 simp only [f8]
 generalize e : lMirValid p0 p1 = R
 unfold lMirValid at e
 refine EV.seq ?_
 refine EV.regionG tabOK ?_ -- region 0
 simp (maxSteps := 2000000) -implicitDefEqProofs
 refine EV.seq ?_
 refine EV.regionG tabOK ?_ -- region 1
 simp (maxSteps := 2000000) -implicitDefEqProofs
 refine callG_fun (w_works09) ?_ ?_
 ·simp
 simp (maxSteps := 2000000) -implicitDefEqProofs
 refine EV.seq ?_
 refine EV.seq ?_
 refine EV.regionG tabOK ?_ -- region 2
 simp (maxSteps := 2000000) -implicitDefEqProofs
 refine EV.condT ?_
 simp -implicitDefEqProofs
 refine EV.skip ?_
 simp only [thenK_normal, blockK_normal, scopeK_normal]
 refine EV.seq ?_
 refine EV.regionG tabOK ?_ -- region 4
 simp (maxSteps := 2000000) -implicitDefEqProofs
 refine callG_fun (w_zLarge p0 250) ?_ ?_
 ·simp
 simp (maxSteps := 2000000) -implicitDefEqProofs
 refine EV.seq ?_
 refine EV.seq ?_
 refine EV.nrm (fun _ : Unit => (⟨[J, J, .ptr 0 0 0 0, .ptr 1 0 0 0, J, .b true, J, J, J, J, J, J, J, J, J, J, .b ((zLarge p0 250) || (zOver p1 250)), J, J, J, J, J, J, J, J, J, J, J], [.arr 0 3 [[.ro 4 (p0.structs.map structC), .ro 3 (p0.enums.map enumC), .ro 4 (p0.fns.map fnC)]], .arr 0 4 [[.s p1.name, .i .i64 p1.params, .ro 4 (p1.locals.map localC), .ro 17 (p1.blocks.map blockC)]]]⟩ : St)) ?_ ?_
 ·skip
  cases k2 : (zLarge p0 250)
  ·skip
   have kk2 := k2
   try simp at kk2
   refine EV.regionG tabOK ?_ -- region 5
   simp (maxSteps := 2000000) -implicitDefEqProofs +contextual [k2, kk2]
   refine callG_fun (w_zOver p1 250) ?_ ?_
   ·first | (simp; done) | (simp [k2, kk2]; done)
   simp (maxSteps := 2000000) -implicitDefEqProofs +contextual [k2, kk2]
   refine ⟨(), ?_⟩
   try dsimp only
   refine Sub.cutF 2 (by simp) ?_ ?_ <;> simp [List.range_succ, toIdx_range, passed, k2, kk2]
  ·skip
   have kk2 := k2
   try simp at kk2
   refine EV.regionG tabOK ?_ -- region 5
   simp (maxSteps := 2000000) -implicitDefEqProofs +contextual [k2, kk2]
   refine ⟨(), ?_⟩
   try dsimp only
   refine Sub.cutF 2 (by simp) ?_ ?_ <;> simp [List.range_succ, toIdx_range, passed, k2, kk2]
 ·skip
  rintro _
  simp only [thenK_normal, blockK_normal, scopeK_normal, bodyK_normal]
  refine EV.condT ?_
  simp -implicitDefEqProofs
  refine condT_intro (fun k3 => ?_) (fun k3 => ?_)
  ·try simp at k3
   obtain ⟨f3, e⟩ := pos_on2 e (by first | simpa using k3 | grind)
   try simp at f3
   refine EV.seq ?_
   refine EV.regionG tabOK ?_ -- region 6
   simp (maxSteps := 2000000) -implicitDefEqProofs
   refine EV.ret ?_
   simp only [thenK_ret, blockK_ret, scopeK_ret, bodyK_ret]
   subst e
   refine Fin.pure0 ?_
   first | (simp; done) | (simp <;> grind)
  ·try simp at k3
   obtain ⟨f3, e⟩ := neg_on2 e (by first | simpa using k3 | grind)
   try simp at f3
   refine EV.skip ?_
   simp only [thenK_normal, blockK_normal, scopeK_normal]
   refine EV.seq ?_
   refine EV.drawG tabOK mixedOK ?_ -- region 7
   simp (maxSteps := 2000000) -implicitDefEqProofs +contextual
   refine callG_fun (w_mValid p0 p1 hs) ?_ ?_
   ·simp
   simp (maxSteps := 2000000) -implicitDefEqProofs +contextual
   refine callG_fun (w_rMirValid p0 p1 hs) ?_ ?_
   ·simp
   simp (maxSteps := 2000000) -implicitDefEqProofs +contextual
   refine And.intro ?_ ?_
   ·first | decide +kernel | (simp -implicitDefEqProofs; decide +kernel) | (split <;> decide +kernel)
   try simp -implicitDefEqProofs
   refine EV.ret ?_
   simp only [thenK_ret, blockK_ret, scopeK_ret, bodyK_ret]
   subst e
   refine Fin.pure0 ?_
   first | (simp; done) | (simp <;> grind)
end
end Go.Proofs.Tryz
end
section
namespace Go.Proofs.Tryz
open Go Go.AM
attribute [local simp] wpG_op wpG_nil contG_some wpG_guard guardG_v guardG_o guardG_tup gval pureOp stepG_if isPick pickG_pick pickB_b pickOK isCall step_move step_assign step_alloc step_box boxV_some step_load step_store step_binOp step_unOp step_fieldAddr faV step_indexAddr ixA_slc ixA_arr step_extract extV_tup step_nilCheck ncV_ptr ncV_rp ncV_fn ncV_mp step_build buildV step_buildSlice bsV step_index ixV_arr ixV_str step_append apB step_makeSlice msV_i step_makeFunc over step_len step_makeMap mmV step_mapUpdate step_insert muA_map muB_mp step_lookup lkA_map lkB_mp step_slice slcV_s slcV_sl slcV_ro cutB_some slObV_arr bound_none bound_some bndV_i lenB_str lenB_ro lenB_sl lenB_nil lenB_z ld_ptr ld_rp offV_ptr offV_rp idxV_ro idxV_sl unV_not unV_neg binV_int binV_str binV_eqlb binV_neqb intOp strOp St.put updL setOb St.ev toV St.lk cellsOf AM.valOf TK.agg stv fillV places TI.zero condT_true condT_false finS resL resSlot packV ren ren1 ren0 Value.cells builtinV appendV elemsOf keepT room_of wrap_in toIdx passed Function.comp_def take_len_map lenV touchOf hid tab1 tab2 tab3 tab4 tab5 tab6 tab7 tab8 tab9 tab10 tab11 tab12 tab13 tab14 tab15 tab16 tab17 tab18 tab19 tab20 tab21 tab22 tab23 tab24 tab25 tab26 tab27 tab28 tab29 tab30 tab31 tab32 tab33 tab34 tab35 tab36 tab37 tab38 tab39 tab40 tab41 tab42 tab43 tab44 tab45 tab46 tab47 tab48 tab49 tab50 tab51 tab52 tab53 tab54 tab55 tab56 tab57 tab58 tab59 tab60 tab61 tab62 tab63 tab64 tab65 tab66 tab67 tab68 tab69 tab70 tab71 tab73 tab74 tab76 tab77 tab78 tab79 tab80 tab81 tab82 tab83 tab84 tab85 tab86 tab87 tab88 tab89 tab90 tab91 tab92 tab93 tab94 tab95 tab96 tab97 tab98 tab99 tab100 tab101 tab102 tab103 tab104 tab105 tab106 tab107 tab108 tab109 tab110 tab111 tab112 tab113 tab114 tab115 tab116 tab117 tab118 tab119 tab120 tab121 tab122 tab123 tab124 tab125 tab126 tab127 tab128 tab129 tab130 tab131 tab132 tab133 tab134 tab135 tab136 tab137 tab138 tab139 tab140 tab141 tab142 tab143 tab144 tab145 tab146 tab147 tab148 tab149 tab150 tab151 tab152 tab153 tab154 tab155 tab156 tab157 tab158 tab159 tab160 tab161 tab162 tab163 tab164 tab165 tab166 tab167 tab168 tab169 tab170 tab171 tab172 tab173 tab174 tab175 tab176 tab177 tab178 tab179 tab180 tab181 tab182 tab184 tab185 tab186 tab187 tab188 tab189 tab190 tab191 tab192 tab193 tab194 tab195 tab196 tab197 tab199 tab200 tab201 tab202 tab203 tab205 tab206 tab208 tab209 tab210 tab211 tab212 tab213 tab214 tab215 tab216 tab217 tab218 tab219 tab220 tab221 tab222 tab223 tab224 tab225 tab227 tab228 tab229 tab230 tab231 tab232 tab233 tab234 tab235 tab236 tab237 tab238 tab239 tab240 tab241 tab243 tab244 tab246 tab247 tab249 tab250 tab251 tab252 tab253 tab254 tab255 tab257 tab258 tab259 tab260 tab261 tab262 tab263 tab264 tab265 tab266 tab267 tab268 tab272 tab273 tab274 tab275 tab276 tab277 tab278 armC_eq blockC_eq bodyC_eq enumC_eq fieldC_eq fnC_eq inC_eq localC_eq mirBodyC_eq operC_eq placeC_eq rvC_eq sourceC_eq spotC_eq stepC_eq stmtC_eq structC_eq tmC_eq tyC_eq useC_eq valueC_eq variantC_eq ren_arr ren_gone ren_unborn ren_var ren_row step_convert cvV_i cvV_sl cvV_s cvK_slc cvE_u8 bytesOf bor1 bor2 bor3 bor4
set_option linter.unusedSimpArgs false
set_option linter.unusedVariables false
set_option maxRecDepth 10000
set_option maxHeartbeats 4000000
noncomputable section
set_option linter.unusedVariables false
theorem rd_TyD (k : Nat) (xs : List V) (h : shpW tab k 45 xs) : ∃ x : TyD, xs = tyC x ∧ True := by
  obtain ⟨yss, h1, h2, k', hk, h3⟩ := shpW_fields h (show (tab 45).kind = .str [(0, 42), (1, 9), (2, 43)] from rfl)
  match yss, h2 with
  | [y0, y1, y2], _ =>
    obtain ⟨a0, rfl, b0⟩ := shpW_int (h3 0 _ _ rfl rfl) (show (tab 42).kind = .int .i64 from rfl)
    obtain ⟨a1, rfl, b1⟩ := shpW_str (h3 1 _ _ rfl rfl) (show (tab 9).kind = .string from rfl)
    obtain ⟨a2, rfl, b2, c2⟩ := shpW_slc tyC (fun x => True) (h3 2 _ _ rfl rfl) (show (tab 43).kind = .slc 45 from rfl) (fun k _ l hl => rd_TyD k l hl)
    exact ⟨⟨a0, a1, a2⟩, by rw [h1]; simp [tyC_eq], trivial⟩
termination_by k
decreasing_by all_goals omega

theorem rd_FieldD (k : Nat) (xs : List V) (h : shpW tab k 100 xs) : ∃ x : FieldD, xs = fieldC x ∧ True := by
  obtain ⟨yss, h1, h2, k', hk, h3⟩ := shpW_fields h (show (tab 100).kind = .str [(0, 9), (1, 45)] from rfl)
  match yss, h2 with
  | [y0, y1], _ =>
    obtain ⟨a0, rfl, b0⟩ := shpW_str (h3 0 _ _ rfl rfl) (show (tab 9).kind = .string from rfl)
    obtain ⟨a1, rfl, b1⟩ := rd_TyD _ _ (h3 1 _ _ rfl rfl)
    exact ⟨⟨a0, a1⟩, by rw [h1]; simp [fieldC_eq], trivial⟩

theorem rd_StructD (k : Nat) (xs : List V) (h : shpW tab k 86 xs) : ∃ x : StructD, xs = structC x ∧ x.fields.length ≤ 2199023255551 := by
  obtain ⟨yss, h1, h2, k', hk, h3⟩ := shpW_fields h (show (tab 86).kind = .str [(0, 9), (1, 4), (2, 33), (3, 3)] from rfl)
  match yss, h2 with
  | [y0, y1, y2, y3], _ =>
    obtain ⟨a0, rfl, b0⟩ := shpW_str (h3 0 _ _ rfl rfl) (show (tab 9).kind = .string from rfl)
    obtain ⟨a1, rfl⟩ := shpW_bool (h3 1 _ _ rfl rfl) (show (tab 4).kind = .bool from rfl)
    obtain ⟨a2, rfl, b2, c2⟩ := shpW_slc fieldC (fun x => True) (h3 2 _ _ rfl rfl) (show (tab 33).kind = .slc 100 from rfl) (fun k _ l hl => rd_FieldD k l hl)
    obtain ⟨a3, rfl, b3⟩ := shpW_int (h3 3 _ _ rfl rfl) (show (tab 3).kind = .int .i64 from rfl)
    exact ⟨⟨a0, a1, a2, a3⟩, by rw [h1]; simp [structC_eq], (show a2.length ≤ 2199023255551 by have := c2; rw [show (tab 100).bytes = 64 from rfl] at this; unfold reachBytes at this; omega)⟩

theorem rd_VariantD (k : Nat) (xs : List V) (h : shpW tab k 92 xs) : ∃ x : VariantD, xs = variantC x ∧ True := by
  obtain ⟨yss, h1, h2, k', hk, h3⟩ := shpW_fields h (show (tab 92).kind = .str [(0, 9), (1, 45)] from rfl)
  match yss, h2 with
  | [y0, y1], _ =>
    obtain ⟨a0, rfl, b0⟩ := shpW_str (h3 0 _ _ rfl rfl) (show (tab 9).kind = .string from rfl)
    obtain ⟨a1, rfl, b1⟩ := rd_TyD _ _ (h3 1 _ _ rfl rfl)
    exact ⟨⟨a0, a1⟩, by rw [h1]; simp [variantC_eq], trivial⟩

theorem rd_EnumD (k : Nat) (xs : List V) (h : shpW tab k 89 xs) : ∃ x : EnumD, xs = enumC x ∧ True := by
  obtain ⟨yss, h1, h2, k', hk, h3⟩ := shpW_fields h (show (tab 89).kind = .str [(0, 9), (1, 87), (2, 3)] from rfl)
  match yss, h2 with
  | [y0, y1, y2], _ =>
    obtain ⟨a0, rfl, b0⟩ := shpW_str (h3 0 _ _ rfl rfl) (show (tab 9).kind = .string from rfl)
    obtain ⟨a1, rfl, b1, c1⟩ := shpW_slc variantC (fun x => True) (h3 1 _ _ rfl rfl) (show (tab 87).kind = .slc 92 from rfl) (fun k _ l hl => rd_VariantD k l hl)
    obtain ⟨a2, rfl, b2⟩ := shpW_int (h3 2 _ _ rfl rfl) (show (tab 3).kind = .int .i64 from rfl)
    exact ⟨⟨a0, a1, a2⟩, by rw [h1]; simp [enumC_eq], trivial⟩

theorem rd_StepD (k : Nat) (xs : List V) (h : shpW tab k 79 xs) : ∃ x : StepD, xs = stepC x ∧ True := by
  obtain ⟨yss, h1, h2, k', hk, h3⟩ := shpW_fields h (show (tab 79).kind = .str [(0, 9)] from rfl)
  match yss, h2 with
  | [y0], _ =>
    obtain ⟨a0, rfl, b0⟩ := shpW_str (h3 0 _ _ rfl rfl) (show (tab 9).kind = .string from rfl)
    exact ⟨⟨a0⟩, by rw [h1]; simp [stepC_eq], trivial⟩

theorem rd_PlaceD (k : Nat) (xs : List V) (h : shpW tab k 39 xs) : ∃ x : PlaceD, xs = placeC x ∧ True := by
  obtain ⟨yss, h1, h2, k', hk, h3⟩ := shpW_fields h (show (tab 39).kind = .str [(0, 9), (1, 37)] from rfl)
  match yss, h2 with
  | [y0, y1], _ =>
    obtain ⟨a0, rfl, b0⟩ := shpW_str (h3 0 _ _ rfl rfl) (show (tab 9).kind = .string from rfl)
    obtain ⟨a1, rfl, b1, c1⟩ := shpW_slc stepC (fun x => True) (h3 1 _ _ rfl rfl) (show (tab 37).kind = .slc 79 from rfl) (fun k _ l hl => rd_StepD k l hl)
    exact ⟨⟨a0, a1⟩, by rw [h1]; simp [placeC_eq], trivial⟩

theorem rd_OperD (k : Nat) (xs : List V) (h : shpW tab k 41 xs) : ∃ x : OperD, xs = operC x ∧ True := by
  obtain ⟨yss, h1, h2, k', hk, h3⟩ := shpW_fields h (show (tab 41).kind = .str [(0, 4), (1, 3), (2, 39)] from rfl)
  match yss, h2 with
  | [y0, y1, y2], _ =>
    obtain ⟨a0, rfl⟩ := shpW_bool (h3 0 _ _ rfl rfl) (show (tab 4).kind = .bool from rfl)
    obtain ⟨a1, rfl, b1⟩ := shpW_int (h3 1 _ _ rfl rfl) (show (tab 3).kind = .int .i64 from rfl)
    obtain ⟨a2, rfl, b2⟩ := rd_PlaceD _ _ (h3 2 _ _ rfl rfl)
    exact ⟨⟨a0, a1, a2⟩, by rw [h1]; simp [operC_eq], trivial⟩

theorem rd_RvD (k : Nat) (xs : List V) (h : shpW tab k 49 xs) : ∃ x : RvD, xs = rvC x ∧ True := by
  obtain ⟨yss, h1, h2, k', hk, h3⟩ := shpW_fields h (show (tab 49).kind = .str [(0, 46), (1, 47), (2, 39), (4, 9), (5, 9)] from rfl)
  match yss, h2 with
  | [y0, y1, y2, y3, y4], _ =>
    obtain ⟨a0, rfl, b0⟩ := shpW_int (h3 0 _ _ rfl rfl) (show (tab 46).kind = .int .i64 from rfl)
    obtain ⟨a1, rfl, b1, c1⟩ := shpW_slc operC (fun x => True) (h3 1 _ _ rfl rfl) (show (tab 47).kind = .slc 41 from rfl) (fun k _ l hl => rd_OperD k l hl)
    obtain ⟨a2, rfl, b2⟩ := rd_PlaceD _ _ (h3 2 _ _ rfl rfl)
    obtain ⟨a3, rfl, b3⟩ := shpW_str (h3 3 _ _ rfl rfl) (show (tab 9).kind = .string from rfl)
    obtain ⟨a4, rfl, b4⟩ := shpW_str (h3 4 _ _ rfl rfl) (show (tab 9).kind = .string from rfl)
    exact ⟨⟨a0, a1, a2, a3, a4⟩, by rw [h1]; simp [rvC_eq], trivial⟩

mutual
theorem rd_ArmD (k : Nat) (xs : List V) (h : shpW tab k 136 xs) : ∃ x : ArmD, xs = armC x ∧ True := by
  obtain ⟨yss, h1, h2, k', hk, h3⟩ := shpW_fields h (show (tab 136).kind = .str [(0, 9), (1, 9), (2, 32)] from rfl)
  match yss, h2 with
  | [y0, y1, y2], _ =>
    obtain ⟨a0, rfl, b0⟩ := shpW_str (h3 0 _ _ rfl rfl) (show (tab 9).kind = .string from rfl)
    obtain ⟨a1, rfl, b1⟩ := shpW_str (h3 1 _ _ rfl rfl) (show (tab 9).kind = .string from rfl)
    obtain ⟨a2, rfl, b2, c2⟩ := shpW_slc stmtC (fun x => True) (h3 2 _ _ rfl rfl) (show (tab 32).kind = .slc 52 from rfl) (fun k _ l hl => rd_StmtD k l hl)
    exact ⟨⟨a0, a1, a2⟩, by rw [h1]; simp [armC_eq], trivial⟩
termination_by k
decreasing_by all_goals omega

theorem rd_StmtD (k : Nat) (xs : List V) (h : shpW tab k 52 xs) : ∃ x : StmtD, xs = stmtC x ∧ True := by
  obtain ⟨yss, h1, h2, k', hk, h3⟩ := shpW_fields h (show (tab 52).kind = .str [(0, 36), (1, 3), (2, 9), (3, 45), (6, 39), (8, 49), (14, 41), (18, 32), (19, 32), (20, 50)] from rfl)
  match yss, h2 with
  | [y0, y1, y2, y3, y4, y5, y6, y7, y8, y9], _ =>
    obtain ⟨a0, rfl, b0⟩ := shpW_int (h3 0 _ _ rfl rfl) (show (tab 36).kind = .int .i64 from rfl)
    obtain ⟨a1, rfl, b1⟩ := shpW_int (h3 1 _ _ rfl rfl) (show (tab 3).kind = .int .i64 from rfl)
    obtain ⟨a2, rfl, b2⟩ := shpW_str (h3 2 _ _ rfl rfl) (show (tab 9).kind = .string from rfl)
    obtain ⟨a3, rfl, b3⟩ := rd_TyD _ _ (h3 3 _ _ rfl rfl)
    obtain ⟨a4, rfl, b4⟩ := rd_PlaceD _ _ (h3 4 _ _ rfl rfl)
    obtain ⟨a5, rfl, b5⟩ := rd_RvD _ _ (h3 5 _ _ rfl rfl)
    obtain ⟨a6, rfl, b6⟩ := rd_OperD _ _ (h3 6 _ _ rfl rfl)
    obtain ⟨a7, rfl, b7, c7⟩ := shpW_slc stmtC (fun x => True) (h3 7 _ _ rfl rfl) (show (tab 32).kind = .slc 52 from rfl) (fun k _ l hl => rd_StmtD k l hl)
    obtain ⟨a8, rfl, b8, c8⟩ := shpW_slc stmtC (fun x => True) (h3 8 _ _ rfl rfl) (show (tab 32).kind = .slc 52 from rfl) (fun k _ l hl => rd_StmtD k l hl)
    obtain ⟨a9, rfl, b9, c9⟩ := shpW_slc armC (fun x => True) (h3 9 _ _ rfl rfl) (show (tab 50).kind = .slc 136 from rfl) (fun k _ l hl => rd_ArmD k l hl)
    exact ⟨⟨a0, a1, a2, a3, a4, a5, a6, a7, a8, a9⟩, by rw [h1]; simp [stmtC_eq], trivial⟩
termination_by k
decreasing_by all_goals omega
end

theorem rd_FnD (k : Nat) (xs : List V) (h : shpW tab k 35 xs) : ∃ x : FnD, xs = fnC x ∧ x.params.length ≤ 2199023255551 := by
  obtain ⟨yss, h1, h2, k', hk, h3⟩ := shpW_fields h (show (tab 35).kind = .str [(0, 9), (1, 33), (2, 32), (3, 3)] from rfl)
  match yss, h2 with
  | [y0, y1, y2, y3], _ =>
    obtain ⟨a0, rfl, b0⟩ := shpW_str (h3 0 _ _ rfl rfl) (show (tab 9).kind = .string from rfl)
    obtain ⟨a1, rfl, b1, c1⟩ := shpW_slc fieldC (fun x => True) (h3 1 _ _ rfl rfl) (show (tab 33).kind = .slc 100 from rfl) (fun k _ l hl => rd_FieldD k l hl)
    obtain ⟨a2, rfl, b2, c2⟩ := shpW_slc stmtC (fun x => True) (h3 2 _ _ rfl rfl) (show (tab 32).kind = .slc 52 from rfl) (fun k _ l hl => rd_StmtD k l hl)
    obtain ⟨a3, rfl, b3⟩ := shpW_int (h3 3 _ _ rfl rfl) (show (tab 3).kind = .int .i64 from rfl)
    exact ⟨⟨a0, a1, a2, a3⟩, by rw [h1]; simp [fnC_eq], (show a1.length ≤ 2199023255551 by have := c1; rw [show (tab 100).bytes = 64 from rfl] at this; unfold reachBytes at this; omega)⟩

theorem rd_SourceD (k : Nat) (xs : List V) (h : shpW tab k 26 xs) : ∃ x : SourceD, xs = sourceC x ∧ SrcOK x := by
  obtain ⟨yss, h1, h2, k', hk, h3⟩ := shpW_fields h (show (tab 26).kind = .str [(0, 22), (1, 23), (2, 24)] from rfl)
  match yss, h2 with
  | [y0, y1, y2], _ =>
    obtain ⟨a0, rfl, b0, c0⟩ := shpW_slc structC (fun x => x.fields.length ≤ 2199023255551) (h3 0 _ _ rfl rfl) (show (tab 22).kind = .slc 86 from rfl) (fun k _ l hl => rd_StructD k l hl)
    obtain ⟨a1, rfl, b1, c1⟩ := shpW_slc enumC (fun x => True) (h3 1 _ _ rfl rfl) (show (tab 23).kind = .slc 89 from rfl) (fun k _ l hl => rd_EnumD k l hl)
    obtain ⟨a2, rfl, b2, c2⟩ := shpW_slc fnC (fun x => x.params.length ≤ 2199023255551) (h3 2 _ _ rfl rfl) (show (tab 24).kind = .slc 35 from rfl) (fun k _ l hl => rd_FnD k l hl)
    exact ⟨⟨a0, a1, a2⟩, by rw [h1]; simp [sourceC_eq], ⟨b0, b2⟩⟩

theorem rd_LocalD (k : Nat) (xs : List V) (h : shpW tab k 138 xs) : ∃ x : LocalD, xs = localC x ∧ True := by
  obtain ⟨yss, h1, h2, k', hk, h3⟩ := shpW_fields h (show (tab 138).kind = .str [(0, 9), (1, 45)] from rfl)
  match yss, h2 with
  | [y0, y1], _ =>
    obtain ⟨a0, rfl, b0⟩ := shpW_str (h3 0 _ _ rfl rfl) (show (tab 9).kind = .string from rfl)
    obtain ⟨a1, rfl, b1⟩ := rd_TyD _ _ (h3 1 _ _ rfl rfl)
    exact ⟨⟨a0, a1⟩, by rw [h1]; simp [localC_eq], trivial⟩

theorem rd_SpotD (k : Nat) (xs : List V) (h : shpW tab k 65 xs) : ∃ x : SpotD, xs = spotC x ∧ True := by
  obtain ⟨yss, h1, h2, k', hk, h3⟩ := shpW_fields h (show (tab 65).kind = .str [(0, 3), (1, 63)] from rfl)
  match yss, h2 with
  | [y0, y1], _ =>
    obtain ⟨a0, rfl, b0⟩ := shpW_int (h3 0 _ _ rfl rfl) (show (tab 3).kind = .int .i64 from rfl)
    obtain ⟨a1, rfl, b1, c1⟩ := shpW_slc (fun z : Int => [V.i .i64 z]) (fun _ => True) (h3 1 _ _ rfl rfl) (show (tab 63).kind = .slc 3 from rfl) (fun k _ l hl => by obtain ⟨m, h, _⟩ := shpW_int hl (show (tab 3).kind = .int .i64 from rfl); exact ⟨m, h, trivial⟩)
    exact ⟨⟨a0, a1⟩, by rw [h1]; simp [spotC_eq], trivial⟩

theorem rd_UseD (k : Nat) (xs : List V) (h : shpW tab k 70 xs) : ∃ x : UseD, xs = useC x ∧ True := by
  obtain ⟨yss, h1, h2, k', hk, h3⟩ := shpW_fields h (show (tab 70).kind = .str [(0, 4), (1, 3), (2, 4), (3, 65)] from rfl)
  match yss, h2 with
  | [y0, y1, y2, y3], _ =>
    obtain ⟨a0, rfl⟩ := shpW_bool (h3 0 _ _ rfl rfl) (show (tab 4).kind = .bool from rfl)
    obtain ⟨a1, rfl, b1⟩ := shpW_int (h3 1 _ _ rfl rfl) (show (tab 3).kind = .int .i64 from rfl)
    obtain ⟨a2, rfl⟩ := shpW_bool (h3 2 _ _ rfl rfl) (show (tab 4).kind = .bool from rfl)
    obtain ⟨a3, rfl, b3⟩ := rd_SpotD _ _ (h3 3 _ _ rfl rfl)
    exact ⟨⟨a0, a1, a2, a3⟩, by rw [h1]; simp [useC_eq], trivial⟩

theorem rd_ValueD (k : Nat) (xs : List V) (h : shpW tab k 68 xs) : ∃ x : ValueD, xs = valueC x ∧ True := by
  obtain ⟨yss, h1, h2, k', hk, h3⟩ := shpW_fields h (show (tab 68).kind = .str [(0, 46), (1, 66), (2, 65), (4, 3), (5, 3)] from rfl)
  match yss, h2 with
  | [y0, y1, y2, y3, y4], _ =>
    obtain ⟨a0, rfl, b0⟩ := shpW_int (h3 0 _ _ rfl rfl) (show (tab 46).kind = .int .i64 from rfl)
    obtain ⟨a1, rfl, b1, c1⟩ := shpW_slc useC (fun x => True) (h3 1 _ _ rfl rfl) (show (tab 66).kind = .slc 70 from rfl) (fun k _ l hl => rd_UseD k l hl)
    obtain ⟨a2, rfl, b2⟩ := rd_SpotD _ _ (h3 2 _ _ rfl rfl)
    obtain ⟨a3, rfl, b3⟩ := shpW_int (h3 3 _ _ rfl rfl) (show (tab 3).kind = .int .i64 from rfl)
    obtain ⟨a4, rfl, b4⟩ := shpW_int (h3 4 _ _ rfl rfl) (show (tab 3).kind = .int .i64 from rfl)
    exact ⟨⟨a0, a1, a2, a3, a4⟩, by rw [h1]; simp [valueC_eq], trivial⟩

theorem rd_InD (k : Nat) (xs : List V) (h : shpW tab k 148 xs) : ∃ x : InD, xs = inC x ∧ True := by
  obtain ⟨yss, h1, h2, k', hk, h3⟩ := shpW_fields h (show (tab 148).kind = .str [(0, 146), (1, 3), (2, 65), (4, 68), (10, 70)] from rfl)
  match yss, h2 with
  | [y0, y1, y2, y3, y4], _ =>
    obtain ⟨a0, rfl, b0⟩ := shpW_int (h3 0 _ _ rfl rfl) (show (tab 146).kind = .int .i64 from rfl)
    obtain ⟨a1, rfl, b1⟩ := shpW_int (h3 1 _ _ rfl rfl) (show (tab 3).kind = .int .i64 from rfl)
    obtain ⟨a2, rfl, b2⟩ := rd_SpotD _ _ (h3 2 _ _ rfl rfl)
    obtain ⟨a3, rfl, b3⟩ := rd_ValueD _ _ (h3 3 _ _ rfl rfl)
    obtain ⟨a4, rfl, b4⟩ := rd_UseD _ _ (h3 4 _ _ rfl rfl)
    exact ⟨⟨a0, a1, a2, a3, a4⟩, by rw [h1]; simp [inC_eq], trivial⟩

theorem rd_TmD (k : Nat) (xs : List V) (h : shpW tab k 141 xs) : ∃ x : TmD, xs = tmC x ∧ True := by
  obtain ⟨yss, h1, h2, k', hk, h3⟩ := shpW_fields h (show (tab 141).kind = .str [(0, 139), (1, 3), (2, 65), (4, 68), (10, 70), (15, 63)] from rfl)
  match yss, h2 with
  | [y0, y1, y2, y3, y4, y5], _ =>
    obtain ⟨a0, rfl, b0⟩ := shpW_int (h3 0 _ _ rfl rfl) (show (tab 139).kind = .int .i64 from rfl)
    obtain ⟨a1, rfl, b1⟩ := shpW_int (h3 1 _ _ rfl rfl) (show (tab 3).kind = .int .i64 from rfl)
    obtain ⟨a2, rfl, b2⟩ := rd_SpotD _ _ (h3 2 _ _ rfl rfl)
    obtain ⟨a3, rfl, b3⟩ := rd_ValueD _ _ (h3 3 _ _ rfl rfl)
    obtain ⟨a4, rfl, b4⟩ := rd_UseD _ _ (h3 4 _ _ rfl rfl)
    obtain ⟨a5, rfl, b5, c5⟩ := shpW_slc (fun z : Int => [V.i .i64 z]) (fun _ => True) (h3 5 _ _ rfl rfl) (show (tab 63).kind = .slc 3 from rfl) (fun k _ l hl => by obtain ⟨m, h, _⟩ := shpW_int hl (show (tab 3).kind = .int .i64 from rfl); exact ⟨m, h, trivial⟩)
    exact ⟨⟨a0, a1, a2, a3, a4, a5⟩, by rw [h1]; simp [tmC_eq], trivial⟩

theorem rd_BlockD (k : Nat) (xs : List V) (h : shpW tab k 144 xs) : ∃ x : BlockD, xs = blockC x ∧ True := by
  obtain ⟨yss, h1, h2, k', hk, h3⟩ := shpW_fields h (show (tab 144).kind = .str [(0, 142), (1, 141)] from rfl)
  match yss, h2 with
  | [y0, y1], _ =>
    obtain ⟨a0, rfl, b0, c0⟩ := shpW_slc inC (fun x => True) (h3 0 _ _ rfl rfl) (show (tab 142).kind = .slc 148 from rfl) (fun k _ l hl => rd_InD k l hl)
    obtain ⟨a1, rfl, b1⟩ := rd_TmD _ _ (h3 1 _ _ rfl rfl)
    exact ⟨⟨a0, a1⟩, by rw [h1]; simp [blockC_eq], trivial⟩

theorem rd_BodyD (k : Nat) (xs : List V) (h : shpW tab k 60 xs) : ∃ x : BodyD, xs = bodyC x ∧ True := by
  obtain ⟨yss, h1, h2, k', hk, h3⟩ := shpW_fields h (show (tab 60).kind = .str [(0, 9), (1, 3), (2, 57), (3, 58)] from rfl)
  match yss, h2 with
  | [y0, y1, y2, y3], _ =>
    obtain ⟨a0, rfl, b0⟩ := shpW_str (h3 0 _ _ rfl rfl) (show (tab 9).kind = .string from rfl)
    obtain ⟨a1, rfl, b1⟩ := shpW_int (h3 1 _ _ rfl rfl) (show (tab 3).kind = .int .i64 from rfl)
    obtain ⟨a2, rfl, b2, c2⟩ := shpW_slc localC (fun x => True) (h3 2 _ _ rfl rfl) (show (tab 57).kind = .slc 138 from rfl) (fun k _ l hl => rd_LocalD k l hl)
    obtain ⟨a3, rfl, b3, c3⟩ := shpW_slc blockC (fun x => True) (h3 3 _ _ rfl rfl) (show (tab 58).kind = .slc 144 from rfl) (fun k _ l hl => rd_BlockD k l hl)
    exact ⟨⟨a0, a1, a2, a3⟩, by rw [h1]; simp [bodyC_eq], trivial⟩
end
end Go.Proofs.Tryz
end
section
namespace Go.Proofs.YtakfpmogpnoibaaGreatDoor
open Go.ChangeShapes Go.WideShapes Go.ChangeAt Go.RowKit Go.AM Go.Proofs.Tryz

theorem ownKnobNone : ownKnob Tryz.prog.godebug = none := by kernel_rfl
theorem laidOutAll : laidOutB Tryz.prog = true := by kernel_rfl
def readT : List TypeId := [3, 4, 9, 22, 23, 24, 26, 32, 33, 35, 36, 37, 39, 41, 42, 43, 45, 46, 47, 49, 50, 52, 57, 58, 60, 63, 65, 66, 68, 70, 79, 86, 87, 89, 92, 100, 136, 138, 139, 141, 142, 144, 146, 148]
theorem readT_closed : closedS tab readT = true := by decide +kernel

theorem gokOf {W : World} {L : List (String × DataW Unit)} (hL : L.drop 2 = [("internal/strconv.uint64pow10", Lib.tabData .u64 Lib.pow10Tab)])
    (hp : (L.all fun x => x.2.handleName?.isNone) = true) (h : laidMetH Tryz.prog L W) : GOK Tryz.prog W (fun _ => False) := by
  rw [MakeChecks.laidMetH_plain _ _ _ hp] at h
  obtain ⟨a, b, rfl⟩ : ∃ a b, L = [a, b, ("internal/strconv.uint64pow10", Lib.tabData .u64 Lib.pow10Tab)] := by
    match L, hL with
    | a :: b :: r, hL => exact ⟨a, b, by rw [show r = _ from hL]⟩
  have h1 := Lib.tabIs_of_head (g := 0) (t := 261) (e := 247) (n := 20) (by kernel_rfl) (by kernel_rfl) (by kernel_rfl) (by kernel_rfl) (by kernel_rfl) (by kernel_rfl) (laidMet.tail (laidMet.tail h))
  intro e he
  obtain rfl := List.mem_singleton.1 he
  refine ⟨h1, fun g hg => ⟨?_, not_false⟩⟩
  unfold Lib.TabIs World.var? at h1
  rw [hg] at h1
  simp only [Option.bind_some] at h1
  rcases Nat.lt_or_ge g W.heap.size with h' | h'
  · exact h'
  · rw [Array.getElem?_eq_none h'] at h1; cases h1
end Go.Proofs.YtakfpmogpnoibaaGreatDoor
end
section
namespace Go.Proofs.YtakfpmogpnoibaaGreatDoor
open Go.ChangeShapes Go.WideShapes Go.ChangeAt Go.RowKit Go.AM Go.Proofs.Tryz

set_option maxRecDepth 100000 in
theorem mirValidLifted (HQ : ∀ (xs0 : List V) (xs1 : List V) (n0 : Nat) (n1 : Nat), shpW tab n0 26 xs0 → shpW tab n1 60 xs1 → QC Tryz.prog 8 [.agg xs0, .agg xs1] [] (.b true) []) (os : Os) (started : os.Started) (H : Type) (enc : TypeId × Value → H) :
    ReturnsInHanded {} Tryz.checked os 8 .any (fun w args => (Rows.mirValidSpec.pre enc Tryz.prog Tryz.f8 Rows.mirValidRow.domain false w args ∧ laidMetH Tryz.prog Rows.mirValidRow.laid w) ∧ sizedMet enc Tryz.prog Tryz.f8 (OpenSpec.ofChange Rows.mirValidSpec) false w args)
      (Rows.mirValidSpec.post enc Tryz.prog Tryz.f8 false true false false) := by
  refine returnsInHanded_of_change_and (C := Tryz.checked) (X := fun w _ => laidMetH Tryz.prog Rows.mirValidRow.laid w) (fun _ _ _ hh h => h.of_heap hh) ownKnobNone started (by kernel_rfl) Tryz.func8
    (ChangeSpec.witness_shaped (enc := enc) (C := Tryz.checked) (os := os) (X := fun w _ => laidMetH Tryz.prog Rows.mirValidRow.laid w) false (World.laidAll Tryz.prog os Rows.mirValidRow.laid) #[.agg #[.slice none 0 0, .slice none 0 0, .slice none 0 0], .agg #[.string ⟨#[]⟩, .int .i64 0, .slice none 0 0, .slice none 0 0]] 8 (World.laidAll_os _ _ _)
      (World.shaped_of_ZipB (by kernel_rfl) (by kernel_rfl)) (by kernel_rfl) (by kernel_rfl) (by kernel_rfl)
      (by rw [MakeChecks.laidMetH_plain _ _ _ (by kernel_rfl)]; exact laidMet_laidAll _ (by kernel_rfl) (by kernel_rfl))) ?_
  intro W base args ds gs before hval0 hW _ hwt hL _
  have hval : ∀ (j : Nat) t v, Tryz.f8.params[j]? = some t → args[j]? = some v → Value.okWide Tryz.prog W .any base t v := hval0
  have hW' := hW
  obtain ⟨p, q, hA0, hV, rfl, _, _⟩ := hW
  have hA : DataW.TrodAll enc Tryz.prog W 0 (fun _ => true) true Tryz.f8.params.toList args.toList ds p := hA0
  rw [Tryz.params8] at hA hval
  have hw : ∀ x ∈ DataW.weightsEach Tryz.prog (Tryz.f8.params.toList ++ Rows.mirValidSpec.plain.varTypes Tryz.prog) (ds ++ gs), x ≤ reachBytes := fun x hx => of_decide_eq_true (List.all_eq_true.1 hwt x hx)
  obtain ⟨v0, v1, d0, d1, p0, p1, rfl, rfl, rfl, h0, h1⟩ := trodAll_two hA
  obtain ⟨rfl, rfl⟩ := trodVars_none hV
  rw [Tryz.params8] at hw
  have hw0 : ∀ q ∈ d0.weights Tryz.prog 26, q ≤ reachBytes := fun q hq => hw q (DataW.weights_mem_each (j := 0) rfl rfl q hq)
  have hw1 : ∀ q ∈ d1.weights Tryz.prog 60, q ≤ reachBytes := fun q hq => hw q (DataW.weights_mem_each (j := 1) rfl rfl q hq)
  simp only [List.append_nil] at hW'
  have hlt : ∀ x ∈ p0 ++ p1, x.block < W.heap.size := fun x hx => by simpa using hW'.lt x (by simpa using hx)
  obtain ⟨xs0, ⟨n0, hs0⟩, hr0⟩ := arg_structW tabOK (T := tab) (t := 26) (S := readT) readT_closed rfl (by decide) (hval 0 26 v0 rfl rfl) h0 hw0
  obtain ⟨xs1, ⟨n1, hs1⟩, hr1⟩ := arg_structW tabOK (T := tab) (t := 60) (S := readT) readT_closed rfl (by decide) (hval 1 60 v1 rfl rfl) h1 hw1
  refine ((HQ xs0 xs1 n0 n1 hs0 hs1).truth (gokOf (L := Rows.mirValidRow.laid) (by kernel_rfl) (by kernel_rfl) hL) (vs := #[v0, v1]) (W := W) rfl (fun ok hok D j x u hx hu => ?_)).mono fun e W' ⟨he, hb⟩ => ?_
  · match j with
    | 0 =>
      simp only [List.getElem?_cons_succ, List.getElem?_cons_zero, Option.some.injEq] at hx
      subst hx
      obtain rfl : v0 = u := by simpa using hu
      exact hr0 ok hok D
    | 1 =>
      simp only [List.getElem?_cons_succ, List.getElem?_cons_zero, Option.some.injEq] at hx
      subst hx
      obtain rfl : v1 = u := by simpa using hu
      exact hr1 ok hok D
    | j + 2 => simp at hx
  · subst he
    refine ⟨_, rfl, _, _, _, [], p0 ++ p1, [], by simpa using hW', ?_, ?_, ?_, hb.frame _, fun h => by cases h⟩
    · exact trodAll_mk1 (shut_bool Tryz.underlying4 true)
    · have hpl : p0 ++ (p1) = p0 ++ p1 := by simp
      rw [← hpl]
      exact trodAll_mk2 (Below.trod laidOutAll (by kernel_rfl) (of_decide_eq_true (by kernel_rfl)) h0 hb (fun x hx => hlt x (by simp [hx]))) (Below.trod laidOutAll (by kernel_rfl) (of_decide_eq_true (by kernel_rfl)) h1 hb (fun x hx => hlt x (by simp [hx])))
    · rfl

theorem mirValidHolds (HQ : ∀ (xs0 : List V) (xs1 : List V) (n0 : Nat) (n1 : Nat), shpW tab n0 26 xs0 → shpW tab n1 60 xs1 → QC Tryz.prog 8 [.agg xs0, .agg xs1] [] (.b true) []) : Rows.MirValidSaid :=
  OpenClaim.holds_of_wide 8 Tryz.f8 rfl rfl rfl rfl rfl rfl rfl ⟨rfl, rfl, rfl, rfl, rfl⟩ rfl rfl rfl rfl rfl (by kernel_rfl) Tryz.func8 (by kernel_rfl)
    (of_decide_eq_true (by kernel_rfl)) (by unfold Func.isWrapper; rw [if_neg (by decide +kernel)]; exact ⟨rfl, rfl⟩)
    (fun os started H enc _ => mirValidLifted HQ os started H enc)

theorem mirValidCard (HQ : ∀ (xs0 : List V) (xs1 : List V) (n0 : Nat) (n1 : Nat), shpW tab n0 26 xs0 → shpW tab n1 60 xs1 → QC Tryz.prog 8 [.agg xs0, .agg xs1] [] (.b true) []) : Rows.MirValidCardSaid :=
  Claim7.holds_tied_plain_at .later [] [.data, .data, .data] true (true, "5fb048d045625182b10262516d9c4193a6b1e98e8e618b184d271e5fcbaa7853") false (mirValidHolds HQ) (fun _ h => by cases h) (by kernel_rfl) (fun _ h => by cases h) mirValid_row_tie rfl ⟨rfl, rfl⟩ (by kernel_rfl) rfl
    (fun f fn hf hfn => by
      obtain rfl : f = 8 := Option.some.inj ((show Tryz.prog.funcNamed "cocoon/cocoonlaw09.MirValid" = some 8 by kernel_rfl).symm.trans hf) |>.symm
      obtain rfl : fn = Tryz.f8 := (Option.some.inj (Tryz.func8.symm.trans hfn)).symm
      exact ⟨by kernel_rfl, fun j t ht => by
        rw [Tryz.params8] at ht
        have hm : t ∈ [26, 60] := by simpa using Array.mem_of_getElem? ht
        have hall : ([26, 60].all fun u => !Tryz.prog.wantsStandIn u) = true := by kernel_rfl
        exact (show Tryz.prog.wantsStandIn t = false by simpa using List.all_eq_true.1 hall t hm)⟩)
    (by kernel_rfl)

theorem mirValid_card : Rows.MirValidCardSaid := mirValidCard fun xs0 xs1 n0 n1 hs0 hs1 => by
  obtain ⟨s, rfl, hs⟩ := rd_SourceD n0 xs0 hs0
  obtain ⟨b, rfl, _⟩ := rd_BodyD n1 xs1 hs1
  have h := w_lMirValid s b hs
  have e : lMirValid s b = true := by
    unfold lMirValid
    rw [mValid_eq]
    split
    · rfl
    · simp
  rw [e] at h
  simpa [sourceC_eq, bodyC_eq] using h
end Go.Proofs.YtakfpmogpnoibaaGreatDoor
end
