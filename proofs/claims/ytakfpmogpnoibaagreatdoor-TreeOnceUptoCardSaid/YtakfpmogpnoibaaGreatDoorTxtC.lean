/- Contracts of the writer's statements, and of a source's text. -/
import Derived.Test.YtakfpmogpnoibaaGreatDoorTxtB
set_option linter.unusedVariables false
set_option linter.unusedSimpArgs false
set_option linter.constructorNameAsVariable false
section
namespace Go.Proofs.Tryz
open Go Go.AM
attribute [local simp] wpG_op wpG_nil contG_some wpG_guard guardG_v guardG_o guardG_tup gval pureOp stepG_if isPick pickG_pick pickB_b pickOK isCall step_move step_assign step_alloc step_box boxV_some step_load step_store step_binOp step_unOp step_fieldAddr faV step_indexAddr ixA_slc ixA_arr step_extract extV_tup step_nilCheck ncV_ptr ncV_rp ncV_fn ncV_mp step_build buildV step_buildSlice bsV step_index ixV_arr ixV_str step_append apB step_makeSlice msV_i step_makeFunc over step_len step_makeMap mmV step_mapUpdate step_insert muA_map muB_mp step_lookup lkA_map lkB_mp step_slice slcV_s slcV_sl slcV_ro cutB_some slObV_arr bound_none bound_some bndV_i lenB_str lenB_ro lenB_sl lenB_nil lenB_z ld_ptr ld_rp offV_ptr offV_rp idxV_ro idxV_sl unV_not unV_neg binV_int binV_str binV_eqlb binV_neqb intOp strOp St.put updL setOb St.ev toV St.lk cellsOf AM.valOf TK.agg stv fillV places TI.zero condT_true condT_false finS resL resSlot packV ren ren1 ren0 Value.cells builtinV appendV elemsOf keepT room_of wrap_in toIdx passed Function.comp_def take_len_map lenV touchOf hid tab1 tab2 tab3 tab4 tab5 tab6 tab7 tab8 tab9 tab20 tab22 tab23 tab24 tab26 tab32 tab33 tab35 tab36 tab37 tab39 tab41 tab42 tab43 tab45 tab46 tab47 tab49 tab50 tab52 tab74 tab79 tab83 tab86 tab87 tab89 tab92 tab100 tab101 tab102 tab103 tab105 tab107 tab108 tab113 tab114 tab116 tab117 tab118 tab122 tab123 tab125 tab127 tab130 tab132 tab136 tab173 tab175 tab178 tab179 tab180 tab182 tab189 tab215 tab219 tab220 tab224 tab225 tab241 tab244 tab247 tab253 tab261 tab262 tab265 tab266 armC_eq blockC_eq bodyC_eq enumC_eq fieldC_eq fnC_eq inC_eq localC_eq mirBodyC_eq operC_eq placeC_eq rvC_eq sourceC_eq spotC_eq stepC_eq stmtC_eq structC_eq tmC_eq tyC_eq useC_eq valueC_eq variantC_eq byteV_fn binV_eqls binV_neqs cutL_nil cutL_junk cutL_cons ren_arr ren_gone ren_unborn ren_var ren_row step_convert cvV_i cvV_sl cvV_s cvK_slc cvE_u8 bytesOf bor1 bor2 bor3 bor4
set_option linter.unusedSimpArgs false
set_option linter.unusedVariables false
set_option maxRecDepth 10000
set_option maxHeartbeats 40000000
noncomputable section
theorem tArmsB_eq (pe : Nat) (pl : List UInt8) (pz : Nat) (p1 : List ArmD) : tArmsB pe pl pz p1 = (pl ++ arT p1 pz, pe + arE p1) := by
 have h : ∀ (l : List ArmD) (a : List UInt8) (e : Nat), tArmsB_l4 pz l a e = (a ++ arT l pz, e + arE l) := by
  intro l
  induction l with
  | nil => intro a e; simp [tArmsB_l4, arT, arE]
  | cons x l ih =>
   intro a e
   obtain ⟨v, b, body⟩ := x
   by_cases hb : b = []
   ·simp [tArmsB_l4, arT, arE, amT, amE, bindT, hb, bnd, ih, Nat.add_assoc]
   simp [tArmsB_l4, arT, arE, amT, amE, bindT, hb, bnd, ih, Nat.add_assoc]
 unfold tArmsB
 simp [bnd, h]

theorem stmt_parts (p1 : StmtD) (hw : wfL (stmtC p1)) : wfL (placeC p1.p) ∧ wfL (operC p1.op) ∧ wfL (rvC p1.rv) ∧ wfR (p1.then_.map stmtC) ∧ wfR (p1.else_.map stmtC) ∧ wfR (p1.arms.map armC) ∧
  p1.name.length + tyN p1.ty + bkL (placeC p1.p) + bkL (operC p1.op) + bkL (rvC p1.rv) + bkR (p1.then_.map stmtC) + bkR (p1.else_.map stmtC) + bkR (p1.arms.map armC) + 6 ≤ bkL (stmtC p1) := by
 refine ⟨?_, ?_, ?_, ?_, ?_, ?_, ?_⟩
 all_goals simp only [stmtC_eq, wfL, wfV] at hw
 ·simp only [placeC_eq, wfL, wfV]; simp only [hw, and_self]
 ·simp only [operC_eq, wfL, wfV]; simp only [hw, and_self]
 ·simp only [rvC_eq, wfL, wfV]; simp only [hw, and_self]
 ·simp only [hw]
 ·simp only [hw]
 ·simp only [hw]
 have h := tyN_eq p1.ty
 simp only [stmtC_eq, placeC_eq, operC_eq, rvC_eq, bkL, bkV, ← Nat.add_assoc]
 omega

def tStmtB (pe : Nat) (pl : List UInt8) (pz : Nat) (p1 : StmtD) : (List UInt8) × Nat :=
 (if p1.k = 0 then ((pl ++ (lineT pz [([108, 101, 116, 32] : List UInt8), p1.name, ([58, 32] : List UInt8), (tyT p1.ty), ([32, 61, 32] : List UInt8), (setT p1.rv), ([59] : List UInt8)])), (pe + 9)) else (if p1.k = 1 then ((pl ++ (lineT pz [(plT p1.p), ([32, 61, 32] : List UInt8), (setT p1.rv), ([59] : List UInt8)])), (pe + 6)) else (if p1.k = 2 then (if 0 < (p1.else_.length : Int) then ((((((pl ++ (lineT pz [([105, 102, 32] : List UInt8), (opT p1.op), ([32, 123] : List UInt8)])) ++ blT p1.then_ pz) ++ (lineT pz [([125, 32, 101, 108, 115, 101, 32, 123] : List UInt8)])) ++ blT p1.else_ pz) ++ (lineT pz [([125] : List UInt8)])), (((((pe + 5) + blE p1.then_) + 3) + blE p1.else_) + 3)) else ((((pl ++ (lineT pz [([105, 102, 32] : List UInt8), (opT p1.op), ([32, 123] : List UInt8)])) ++ blT p1.then_ pz) ++ (lineT pz [([125] : List UInt8)])), (((pe + 5) + blE p1.then_) + 3))) else (if p1.k = 3 then ((((pl ++ (lineT pz [([119, 104, 105, 108, 101, 32] : List UInt8), (opT p1.op), ([32, 123] : List UInt8)])) ++ blT p1.then_ pz) ++ (lineT pz [([125] : List UInt8)])), (((pe + 5) + blE p1.then_) + 3)) else (if p1.k = 4 then ((((pl ++ (lineT pz [([109, 97, 116, 99, 104, 32] : List UInt8), (plT p1.p), ([32, 123] : List UInt8)])) ++ arT p1.arms pz) ++ (lineT pz [([125] : List UInt8)])), (((pe + 5) + arE p1.arms) + 3)) else (if p1.k = 5 then ((pl ++ (lineT pz [([121, 105, 101, 108, 100, 32] : List UInt8), (opT p1.op), ([59] : List UInt8)])), (pe + 5)) else (if p1.k = 6 then ((pl ++ (lineT pz [([114, 101, 116, 117, 114, 110, 32] : List UInt8), (opT p1.op), ([59] : List UInt8)])), (pe + 5)) else (if p1.k = 7 then ((pl ++ (lineT pz [([112, 114, 105, 110, 116, 32] : List UInt8), (opT p1.op), ([59] : List UInt8)])), (pe + 5)) else (if p1.k = 8 then ((pl ++ (lineT pz [([100, 114, 111, 112, 32] : List UInt8), (plT p1.p), ([59] : List UInt8)])), (pe + 5)) else ((pl ++ (lineT pz [([63] : List UInt8)])), (pe + 3)))))))))))
theorem w_tStmtB (pe : Nat) (pl : List UInt8) (pz : Nat) (p1 : StmtD) (hw : wfL (stmtC p1)) (hk : bkL (stmtC p1) ≤ 1050000) (hz : pz + bkL (stmtC p1) ≤ 2100000) (hl : pl.length + 3000000 * bkL (stmtC p1) ≤ 100000000000000) (HB : ∀ (l : List StmtD) (e n : Nat) (a : List UInt8), (l = p1.then_ ∨ l = p1.else_) → wfR (l.map stmtC) → n + 1 + bkR (l.map stmtC) ≤ 2100000 → a.length + 3000000 * bkR (l.map stmtC) ≤ 100000000000000 → QC prog 76 [.ptr 0 0 0 0, .ro 21 (l.map stmtC)] [.var 127 [.ptr 0 0 0 0, .sl 1 (e) 0 (a).length, .i .i64 ((n : Nat) : Int)], .row 5 (e) ((a).map byteV)] (.tup []) [.var 127 [.ptr 0 0 0 0, .sl 1 (e + blE l) 0 (a ++ blT l n).length, .i .i64 ((n : Nat) : Int)], .row 5 (e + blE l) ((a ++ blT l n).map byteV)]) (HA : ∀ (l : List ArmD) (e n : Nat) (a : List UInt8), l = p1.arms → wfR (l.map armC) → n + 1 + bkR (l.map armC) ≤ 2100000 → a.length + 3000000 * bkR (l.map armC) ≤ 100000000000000 → QC prog 193 [.ptr 0 0 0 0, .ro 3 (l.map armC)] [.var 127 [.ptr 0 0 0 0, .sl 1 (e) 0 (a).length, .i .i64 ((n : Nat) : Int)], .row 5 (e) ((a).map byteV)] (.tup []) [.var 127 [.ptr 0 0 0 0, .sl 1 (e + arE l) 0 (a ++ arT l n).length, .i .i64 ((n : Nat) : Int)], .row 5 (e + arE l) ((a ++ arT l n).map byteV)]) : QC prog 125 [.ptr 0 0 0 0, .agg [.i .i64 p1.k, .i .i64 p1.at_, .s p1.name, .i .i64 p1.ty.k, .s p1.ty.name, .ro 3 (p1.ty.l.map tyC), .s p1.p.name, .ro 1 (p1.p.path.map stepC), .i .i64 p1.rv.k, .ro 4 (p1.rv.ops.map operC), .s p1.rv.p.name, .ro 1 (p1.rv.p.path.map stepC), .s p1.rv.name, .s p1.rv.variant, .b p1.op.num, .i .i64 p1.op.n, .s p1.op.p.name, .ro 1 (p1.op.p.path.map stepC), .ro 21 (p1.then_.map stmtC), .ro 21 (p1.else_.map stmtC), .ro 3 (p1.arms.map armC)]] [.var 127 [.ptr 0 0 0 0, .sl 1 pe 0 pl.length, .i .i64 (pz : Int)], .row 5 pe (pl.map byteV)] (.tup []) [.var 127 [.ptr 0 0 0 0, .sl 1 ((tStmtB pe pl pz p1).2) 0 ((tStmtB pe pl pz p1).1).length, .i .i64 ((pz : Nat) : Int)], .row 5 ((tStmtB pe pl pz p1).2) (((tStmtB pe pl pz p1).1).map byteV)] := by
 refine QC.of_body tabOK func125 rfl (by kernel_rfl) ?_
 simp only [f125]
 generalize e : tStmtB pe pl pz p1 = R
 unfold tStmtB at e
 have hw1 : IntKind.i64.wrap ((pz : Int) + 1) = (pz : Int) + 1 := wrap_in _ (by omega) (by omega)
 obtain ⟨g1, g2, g3, g4, g5, g6, g7⟩ := stmt_parts p1 hw
 have hty : tyN p1.ty ≤ 1050000 := by omega
 have hzp : bkL (placeC p1.p) ≤ 1050000 := by omega
 have hzo : bkL (operC p1.op) ≤ 1050000 := by omega
 have hzr : bkL (rvC p1.rv) ≤ 1050000 := by omega
 refine SR ?_
 simp -implicitDefEqProofs
 refine SR ?_
 simp -implicitDefEqProofs
 refine EV.block (SR ?_)
 simp -implicitDefEqProofs
 refine EV.condT ?_
 simp -implicitDefEqProofs
 refine condT_intro (fun k1 => ?_) (fun k1 => ?_)
 ·as_aux_lemma =>
  try simp at k1
  obtain ⟨f1, e⟩ := PO e k1
  try simp at f1
  have := tyT_len p1.ty
  have := setT_len p1.rv
  have := lineT_len pz [([108, 101, 116, 32] : List UInt8), p1.name, ([58, 32] : List UInt8), (tyT p1.ty), ([32, 61, 32] : List UInt8), (setT p1.rv), ([59] : List UInt8)]
  try simp only [List.map_cons, List.map_nil, List.sum_cons, List.sum_nil, List.length_cons, List.length_nil] at this
  refine EV.drawG tabOK mixedOK ?_
  simp -implicitDefEqProofs
  refine callG_fun (w_tType 1050000 p1.ty (by first | assumption | omega) (Nat.le_refl _)) ?_ ?_
  ·simp
  simp -implicitDefEqProofs
  refine callG_fun (w_tSet' p1.rv (by assumption) (by assumption)) ?_ ?_
  ·simp
  simp -implicitDefEqProofs
  refine callG_own [0, 1, 3] rfl (w_wl7r pe pl pz ([108, 101, 116, 32] : List UInt8) p1.name ([58, 32] : List UInt8) (tyT p1.ty) ([32, 61, 32] : List UInt8) (setT p1.rv) ([59] : List UInt8) (by first | omega | (simp; omega))) ?_ ?_ ?_ ?_ ?_ ?_
  ·simp [Nat.add_assoc, List.range_succ, hw1]
  ·simp [Nat.add_assoc, List.range_succ, hw1]
  ·simp [Nat.add_assoc, List.range_succ, hw1]
  ·simp [Nat.add_assoc, List.range_succ, hw1]
  ·simp [Nat.add_assoc, List.range_succ, hw1]
  simp -implicitDefEqProofs [keys, callUpd, List.range_succ]
  refine And.intro ?_ ?_
  ·first | decide +kernel | (simp -implicitDefEqProofs; decide +kernel) | (split <;> decide +kernel)
  try simp -implicitDefEqProofs
  try simp only [bodyK_normal]
  subst e
  refine Fin.plain ?_ ?_
  ·simp
  simp [List.range_succ, Nat.add_assoc, hw1]
 ·as_aux_lemma =>
  try simp at k1
  obtain ⟨f1, e⟩ := NO e k1
  try simp at f1
  refine SR ?_
  simp -implicitDefEqProofs
  refine EV.condT ?_
  simp -implicitDefEqProofs
  refine condT_intro (fun k2 => ?_) (fun k2 => ?_)
  ·as_aux_lemma =>
   try simp at k2
   obtain ⟨f2, e⟩ := PO e k2
   try simp at f2
   have := plT_len p1.p
   have := setT_len p1.rv
   have := lineT_len pz [(plT p1.p), ([32, 61, 32] : List UInt8), (setT p1.rv), ([59] : List UInt8)]
   try simp only [List.map_cons, List.map_nil, List.sum_cons, List.sum_nil, List.length_cons, List.length_nil] at this
   refine EV.drawG tabOK mixedOK ?_
   simp -implicitDefEqProofs
   refine callG_fun (w_tPlace' p1.p (by assumption) (by assumption)) ?_ ?_
   ·simp
   simp -implicitDefEqProofs
   refine callG_fun (w_tSet' p1.rv (by assumption) (by assumption)) ?_ ?_
   ·simp
   simp -implicitDefEqProofs
   refine callG_own [0, 1, 3] rfl (w_wl4r pe pl pz (plT p1.p) ([32, 61, 32] : List UInt8) (setT p1.rv) ([59] : List UInt8) (by first | omega | (simp; omega))) ?_ ?_ ?_ ?_ ?_ ?_
   ·simp [Nat.add_assoc, List.range_succ, hw1]
   ·simp [Nat.add_assoc, List.range_succ, hw1]
   ·simp [Nat.add_assoc, List.range_succ, hw1]
   ·simp [Nat.add_assoc, List.range_succ, hw1]
   ·simp [Nat.add_assoc, List.range_succ, hw1]
   simp -implicitDefEqProofs [keys, callUpd, List.range_succ]
   refine And.intro ?_ ?_
   ·first | decide +kernel | (simp -implicitDefEqProofs; decide +kernel) | (split <;> decide +kernel)
   try simp -implicitDefEqProofs
   try simp only [bodyK_normal]
   subst e
   refine Fin.plain ?_ ?_
   ·simp
   simp [List.range_succ, Nat.add_assoc, hw1]
  ·as_aux_lemma =>
   try simp at k2
   obtain ⟨f2, e⟩ := NO e k2
   try simp at f2
   refine SR ?_
   simp -implicitDefEqProofs
   refine EV.condT ?_
   simp -implicitDefEqProofs
   refine condT_intro (fun k3 => ?_) (fun k3 => ?_)
   ·as_aux_lemma =>
    try simp at k3
    obtain ⟨f3, e⟩ := PO e k3
    try simp at f3
    refine EV.seq ?_
    have := opT_len p1.op
    have := lineT_len pz [([105, 102, 32] : List UInt8), (opT p1.op), ([32, 123] : List UInt8)]
    try simp only [List.map_cons, List.map_nil, List.sum_cons, List.sum_nil, List.length_cons, List.length_nil] at this
    refine RG ?_
    simp -implicitDefEqProofs
    refine callG_fun (w_tOper' p1.op (by assumption) (by assumption)) ?_ ?_
    ·simp
    simp -implicitDefEqProofs
    refine callG_own [0, 1, 3] rfl (w_wl3r pe pl pz ([105, 102, 32] : List UInt8) (opT p1.op) ([32, 123] : List UInt8) (by first | omega | (simp; omega))) ?_ ?_ ?_ ?_ ?_ ?_
    ·simp [Nat.add_assoc, List.range_succ, hw1]
    ·simp [Nat.add_assoc, List.range_succ, hw1]
    ·simp [Nat.add_assoc, List.range_succ, hw1]
    ·simp [Nat.add_assoc, List.range_succ, hw1]
    ·simp [Nat.add_assoc, List.range_succ, hw1]
    simp -implicitDefEqProofs [keys, callUpd, List.range_succ]
    refine EV.seq ?_
    have := blT_len p1.then_ pz (by omega)
    refine RG ?_
    simp -implicitDefEqProofs
    refine callG_own [0, 1] rfl (HB p1.then_ (pe + 5) pz (pl ++ (lineT pz [([105, 102, 32] : List UInt8), (opT p1.op), ([32, 123] : List UInt8)])) (by first | exact .inl rfl | exact .inr rfl) (by assumption) (by omega) (by (try simp only [List.length_append, List.length_cons, List.length_nil]); omega)) ?_ ?_ ?_ ?_ ?_ ?_
    ·simp [Nat.add_assoc, List.range_succ, hw1]
    ·simp [Nat.add_assoc, List.range_succ, hw1]
    ·simp [Nat.add_assoc, List.range_succ, hw1]
    ·simp [Nat.add_assoc, List.range_succ, hw1]
    ·simp [Nat.add_assoc, List.range_succ, hw1]
    simp -implicitDefEqProofs [keys, callUpd, List.range_succ]
    refine EV.seq (SR ?_)
    simp -implicitDefEqProofs
    refine EV.condT ?_
    simp -implicitDefEqProofs
    refine condT_intro (fun k4 => ?_) (fun k4 => ?_)
    ·as_aux_lemma =>
     try simp at k4
     obtain ⟨f4, e⟩ := PO e k4
     try simp at f4
     refine EV.seq ?_
     have := lineT_len pz [([125, 32, 101, 108, 115, 101, 32, 123] : List UInt8)]
     try simp only [List.map_cons, List.map_nil, List.sum_cons, List.sum_nil, List.length_cons, List.length_nil] at this
     refine RG ?_
     simp -implicitDefEqProofs
     refine callG_own [0, 1, 4] rfl (w_wl1r ((pe + 5) + blE p1.then_) ((pl ++ (lineT pz [([105, 102, 32] : List UInt8), (opT p1.op), ([32, 123] : List UInt8)])) ++ blT p1.then_ pz) pz ([125, 32, 101, 108, 115, 101, 32, 123] : List UInt8) (by first | omega | (simp; omega))) ?_ ?_ ?_ ?_ ?_ ?_
     ·simp [Nat.add_assoc, List.range_succ, hw1]
     ·simp [Nat.add_assoc, List.range_succ, hw1]
     ·simp [Nat.add_assoc, List.range_succ, hw1]
     ·simp [Nat.add_assoc, List.range_succ, hw1]
     ·simp [Nat.add_assoc, List.range_succ, hw1]
     simp -implicitDefEqProofs [keys, callUpd, List.range_succ]
     have := blT_len p1.else_ pz (by omega)
     refine RG ?_
     simp -implicitDefEqProofs
     refine callG_own [0, 1] rfl (HB p1.else_ (((pe + 5) + blE p1.then_) + 3) pz (((pl ++ (lineT pz [([105, 102, 32] : List UInt8), (opT p1.op), ([32, 123] : List UInt8)])) ++ blT p1.then_ pz) ++ (lineT pz [([125, 32, 101, 108, 115, 101, 32, 123] : List UInt8)])) (by first | exact .inl rfl | exact .inr rfl) (by assumption) (by omega) (by (try simp only [List.length_append, List.length_cons, List.length_nil]); omega)) ?_ ?_ ?_ ?_ ?_ ?_
     ·simp [Nat.add_assoc, List.range_succ, hw1]
     ·simp [Nat.add_assoc, List.range_succ, hw1]
     ·simp [Nat.add_assoc, List.range_succ, hw1]
     ·simp [Nat.add_assoc, List.range_succ, hw1]
     ·simp [Nat.add_assoc, List.range_succ, hw1]
     simp -implicitDefEqProofs [keys, callUpd, List.range_succ]
     have := lineT_len pz [([125] : List UInt8)]
     try simp only [List.map_cons, List.map_nil, List.sum_cons, List.sum_nil, List.length_cons, List.length_nil] at this
     refine RG ?_
     simp -implicitDefEqProofs
     refine callG_own [0, 1, 5] rfl (w_wl1r ((((pe + 5) + blE p1.then_) + 3) + blE p1.else_) ((((pl ++ (lineT pz [([105, 102, 32] : List UInt8), (opT p1.op), ([32, 123] : List UInt8)])) ++ blT p1.then_ pz) ++ (lineT pz [([125, 32, 101, 108, 115, 101, 32, 123] : List UInt8)])) ++ blT p1.else_ pz) pz ([125] : List UInt8) (by first | omega | (simp; omega))) ?_ ?_ ?_ ?_ ?_ ?_
     ·simp [Nat.add_assoc, List.range_succ, hw1]
     ·simp [Nat.add_assoc, List.range_succ, hw1]
     ·simp [Nat.add_assoc, List.range_succ, hw1]
     ·simp [Nat.add_assoc, List.range_succ, hw1]
     ·simp [Nat.add_assoc, List.range_succ, hw1]
     simp -implicitDefEqProofs [keys, callUpd, List.range_succ]
     try simp only [bodyK_normal]
     subst e
     refine Fin.plain ?_ ?_
     ·simp
     simp [List.range_succ, Nat.add_assoc, hw1]
    ·as_aux_lemma =>
     try simp at k4
     obtain ⟨f4, e⟩ := NO e k4
     try simp at f4
     refine EV.skip ?_
     simp only [KN1, KN2, KN3]
     have := lineT_len pz [([125] : List UInt8)]
     try simp only [List.map_cons, List.map_nil, List.sum_cons, List.sum_nil, List.length_cons, List.length_nil] at this
     refine RG ?_
     simp -implicitDefEqProofs
     refine callG_own [0, 1, 4] rfl (w_wl1r ((pe + 5) + blE p1.then_) ((pl ++ (lineT pz [([105, 102, 32] : List UInt8), (opT p1.op), ([32, 123] : List UInt8)])) ++ blT p1.then_ pz) pz ([125] : List UInt8) (by first | omega | (simp; omega))) ?_ ?_ ?_ ?_ ?_ ?_
     ·simp [Nat.add_assoc, List.range_succ, hw1]
     ·simp [Nat.add_assoc, List.range_succ, hw1]
     ·simp [Nat.add_assoc, List.range_succ, hw1]
     ·simp [Nat.add_assoc, List.range_succ, hw1]
     ·simp [Nat.add_assoc, List.range_succ, hw1]
     simp -implicitDefEqProofs [keys, callUpd, List.range_succ]
     try simp only [bodyK_normal]
     subst e
     refine Fin.plain ?_ ?_
     ·simp
     simp [List.range_succ, Nat.add_assoc, hw1]
   ·as_aux_lemma =>
    try simp at k3
    obtain ⟨f3, e⟩ := NO e k3
    try simp at f3
    refine SR ?_
    simp -implicitDefEqProofs
    refine EV.condT ?_
    simp -implicitDefEqProofs
    refine condT_intro (fun k5 => ?_) (fun k5 => ?_)
    ·as_aux_lemma =>
     try simp at k5
     obtain ⟨f5, e⟩ := PO e k5
     try simp at f5
     refine EV.seq ?_
     have := opT_len p1.op
     have := lineT_len pz [([119, 104, 105, 108, 101, 32] : List UInt8), (opT p1.op), ([32, 123] : List UInt8)]
     try simp only [List.map_cons, List.map_nil, List.sum_cons, List.sum_nil, List.length_cons, List.length_nil] at this
     refine RG ?_
     simp -implicitDefEqProofs
     refine callG_fun (w_tOper' p1.op (by assumption) (by assumption)) ?_ ?_
     ·simp
     simp -implicitDefEqProofs
     refine callG_own [0, 1, 3] rfl (w_wl3r pe pl pz ([119, 104, 105, 108, 101, 32] : List UInt8) (opT p1.op) ([32, 123] : List UInt8) (by first | omega | (simp; omega))) ?_ ?_ ?_ ?_ ?_ ?_
     ·simp [Nat.add_assoc, List.range_succ, hw1]
     ·simp [Nat.add_assoc, List.range_succ, hw1]
     ·simp [Nat.add_assoc, List.range_succ, hw1]
     ·simp [Nat.add_assoc, List.range_succ, hw1]
     ·simp [Nat.add_assoc, List.range_succ, hw1]
     simp -implicitDefEqProofs [keys, callUpd, List.range_succ]
     refine EV.seq ?_
     have := blT_len p1.then_ pz (by omega)
     refine RG ?_
     simp -implicitDefEqProofs
     refine callG_own [0, 1] rfl (HB p1.then_ (pe + 5) pz (pl ++ (lineT pz [([119, 104, 105, 108, 101, 32] : List UInt8), (opT p1.op), ([32, 123] : List UInt8)])) (by first | exact .inl rfl | exact .inr rfl) (by assumption) (by omega) (by (try simp only [List.length_append, List.length_cons, List.length_nil]); omega)) ?_ ?_ ?_ ?_ ?_ ?_
     ·simp [Nat.add_assoc, List.range_succ, hw1]
     ·simp [Nat.add_assoc, List.range_succ, hw1]
     ·simp [Nat.add_assoc, List.range_succ, hw1]
     ·simp [Nat.add_assoc, List.range_succ, hw1]
     ·simp [Nat.add_assoc, List.range_succ, hw1]
     simp -implicitDefEqProofs [keys, callUpd, List.range_succ]
     have := lineT_len pz [([125] : List UInt8)]
     try simp only [List.map_cons, List.map_nil, List.sum_cons, List.sum_nil, List.length_cons, List.length_nil] at this
     refine RG ?_
     simp -implicitDefEqProofs
     refine callG_own [0, 1, 4] rfl (w_wl1r ((pe + 5) + blE p1.then_) ((pl ++ (lineT pz [([119, 104, 105, 108, 101, 32] : List UInt8), (opT p1.op), ([32, 123] : List UInt8)])) ++ blT p1.then_ pz) pz ([125] : List UInt8) (by first | omega | (simp; omega))) ?_ ?_ ?_ ?_ ?_ ?_
     ·simp [Nat.add_assoc, List.range_succ, hw1]
     ·simp [Nat.add_assoc, List.range_succ, hw1]
     ·simp [Nat.add_assoc, List.range_succ, hw1]
     ·simp [Nat.add_assoc, List.range_succ, hw1]
     ·simp [Nat.add_assoc, List.range_succ, hw1]
     simp -implicitDefEqProofs [keys, callUpd, List.range_succ]
     try simp only [bodyK_normal]
     subst e
     refine Fin.plain ?_ ?_
     ·simp
     simp [List.range_succ, Nat.add_assoc, hw1]
    ·as_aux_lemma =>
     try simp at k5
     obtain ⟨f5, e⟩ := NO e k5
     try simp at f5
     refine SR ?_
     simp -implicitDefEqProofs
     refine EV.condT ?_
     simp -implicitDefEqProofs
     refine condT_intro (fun k6 => ?_) (fun k6 => ?_)
     ·as_aux_lemma =>
      try simp at k6
      obtain ⟨f6, e⟩ := PO e k6
      try simp at f6
      refine EV.seq ?_
      have := plT_len p1.p
      have := lineT_len pz [([109, 97, 116, 99, 104, 32] : List UInt8), (plT p1.p), ([32, 123] : List UInt8)]
      try simp only [List.map_cons, List.map_nil, List.sum_cons, List.sum_nil, List.length_cons, List.length_nil] at this
      refine RG ?_
      simp -implicitDefEqProofs
      refine callG_fun (w_tPlace' p1.p (by assumption) (by assumption)) ?_ ?_
      ·simp
      simp -implicitDefEqProofs
      refine callG_own [0, 1, 3] rfl (w_wl3r pe pl pz ([109, 97, 116, 99, 104, 32] : List UInt8) (plT p1.p) ([32, 123] : List UInt8) (by first | omega | (simp; omega))) ?_ ?_ ?_ ?_ ?_ ?_
      ·simp [Nat.add_assoc, List.range_succ, hw1]
      ·simp [Nat.add_assoc, List.range_succ, hw1]
      ·simp [Nat.add_assoc, List.range_succ, hw1]
      ·simp [Nat.add_assoc, List.range_succ, hw1]
      ·simp [Nat.add_assoc, List.range_succ, hw1]
      simp -implicitDefEqProofs [keys, callUpd, List.range_succ]
      refine EV.seq ?_
      have := arT_len p1.arms pz (by omega)
      refine RG ?_
      simp -implicitDefEqProofs
      refine callG_own [0, 1] rfl (HA p1.arms (pe + 5) pz (pl ++ (lineT pz [([109, 97, 116, 99, 104, 32] : List UInt8), (plT p1.p), ([32, 123] : List UInt8)])) rfl (by assumption) (by omega) (by (try simp only [List.length_append, List.length_cons, List.length_nil]); omega)) ?_ ?_ ?_ ?_ ?_ ?_
      ·simp [Nat.add_assoc, List.range_succ, hw1]
      ·simp [Nat.add_assoc, List.range_succ, hw1]
      ·simp [Nat.add_assoc, List.range_succ, hw1]
      ·simp [Nat.add_assoc, List.range_succ, hw1]
      ·simp [Nat.add_assoc, List.range_succ, hw1]
      simp -implicitDefEqProofs [keys, callUpd, List.range_succ]
      have := lineT_len pz [([125] : List UInt8)]
      try simp only [List.map_cons, List.map_nil, List.sum_cons, List.sum_nil, List.length_cons, List.length_nil] at this
      refine RG ?_
      simp -implicitDefEqProofs
      refine callG_own [0, 1, 4] rfl (w_wl1r ((pe + 5) + arE p1.arms) ((pl ++ (lineT pz [([109, 97, 116, 99, 104, 32] : List UInt8), (plT p1.p), ([32, 123] : List UInt8)])) ++ arT p1.arms pz) pz ([125] : List UInt8) (by first | omega | (simp; omega))) ?_ ?_ ?_ ?_ ?_ ?_
      ·simp [Nat.add_assoc, List.range_succ, hw1]
      ·simp [Nat.add_assoc, List.range_succ, hw1]
      ·simp [Nat.add_assoc, List.range_succ, hw1]
      ·simp [Nat.add_assoc, List.range_succ, hw1]
      ·simp [Nat.add_assoc, List.range_succ, hw1]
      simp -implicitDefEqProofs [keys, callUpd, List.range_succ]
      try simp only [bodyK_normal]
      subst e
      refine Fin.plain ?_ ?_
      ·simp
      simp [List.range_succ, Nat.add_assoc, hw1]
     ·as_aux_lemma =>
      try simp at k6
      obtain ⟨f6, e⟩ := NO e k6
      try simp at f6
      refine SR ?_
      simp -implicitDefEqProofs
      refine EV.condT ?_
      simp -implicitDefEqProofs
      refine condT_intro (fun k7 => ?_) (fun k7 => ?_)
      ·as_aux_lemma =>
       try simp at k7
       obtain ⟨f7, e⟩ := PO e k7
       try simp at f7
       have := opT_len p1.op
       have := lineT_len pz [([121, 105, 101, 108, 100, 32] : List UInt8), (opT p1.op), ([59] : List UInt8)]
       try simp only [List.map_cons, List.map_nil, List.sum_cons, List.sum_nil, List.length_cons, List.length_nil] at this
       refine RG ?_
       simp -implicitDefEqProofs
       refine callG_fun (w_tOper' p1.op (by assumption) (by assumption)) ?_ ?_
       ·simp
       simp -implicitDefEqProofs
       refine callG_own [0, 1, 3] rfl (w_wl3r pe pl pz ([121, 105, 101, 108, 100, 32] : List UInt8) (opT p1.op) ([59] : List UInt8) (by first | omega | (simp; omega))) ?_ ?_ ?_ ?_ ?_ ?_
       ·simp [Nat.add_assoc, List.range_succ, hw1]
       ·simp [Nat.add_assoc, List.range_succ, hw1]
       ·simp [Nat.add_assoc, List.range_succ, hw1]
       ·simp [Nat.add_assoc, List.range_succ, hw1]
       ·simp [Nat.add_assoc, List.range_succ, hw1]
       simp -implicitDefEqProofs [keys, callUpd, List.range_succ]
       try simp only [bodyK_normal]
       subst e
       refine Fin.plain ?_ ?_
       ·simp
       simp [List.range_succ, Nat.add_assoc, hw1]
      ·as_aux_lemma =>
       try simp at k7
       obtain ⟨f7, e⟩ := NO e k7
       try simp at f7
       refine SR ?_
       simp -implicitDefEqProofs
       refine EV.condT ?_
       simp -implicitDefEqProofs
       refine condT_intro (fun k8 => ?_) (fun k8 => ?_)
       ·as_aux_lemma =>
        try simp at k8
        obtain ⟨f8, e⟩ := PO e k8
        try simp at f8
        have := opT_len p1.op
        have := lineT_len pz [([114, 101, 116, 117, 114, 110, 32] : List UInt8), (opT p1.op), ([59] : List UInt8)]
        try simp only [List.map_cons, List.map_nil, List.sum_cons, List.sum_nil, List.length_cons, List.length_nil] at this
        refine RG ?_
        simp -implicitDefEqProofs
        refine callG_fun (w_tOper' p1.op (by assumption) (by assumption)) ?_ ?_
        ·simp
        simp -implicitDefEqProofs
        refine callG_own [0, 1, 3] rfl (w_wl3r pe pl pz ([114, 101, 116, 117, 114, 110, 32] : List UInt8) (opT p1.op) ([59] : List UInt8) (by first | omega | (simp; omega))) ?_ ?_ ?_ ?_ ?_ ?_
        ·simp [Nat.add_assoc, List.range_succ, hw1]
        ·simp [Nat.add_assoc, List.range_succ, hw1]
        ·simp [Nat.add_assoc, List.range_succ, hw1]
        ·simp [Nat.add_assoc, List.range_succ, hw1]
        ·simp [Nat.add_assoc, List.range_succ, hw1]
        simp -implicitDefEqProofs [keys, callUpd, List.range_succ]
        try simp only [bodyK_normal]
        subst e
        refine Fin.plain ?_ ?_
        ·simp
        simp [List.range_succ, Nat.add_assoc, hw1]
       ·as_aux_lemma =>
        try simp at k8
        obtain ⟨f8, e⟩ := NO e k8
        try simp at f8
        refine SR ?_
        simp -implicitDefEqProofs
        refine EV.condT ?_
        simp -implicitDefEqProofs
        refine condT_intro (fun k9 => ?_) (fun k9 => ?_)
        ·as_aux_lemma =>
         try simp at k9
         obtain ⟨f9, e⟩ := PO e k9
         try simp at f9
         have := opT_len p1.op
         have := lineT_len pz [([112, 114, 105, 110, 116, 32] : List UInt8), (opT p1.op), ([59] : List UInt8)]
         try simp only [List.map_cons, List.map_nil, List.sum_cons, List.sum_nil, List.length_cons, List.length_nil] at this
         refine RG ?_
         simp -implicitDefEqProofs
         refine callG_fun (w_tOper' p1.op (by assumption) (by assumption)) ?_ ?_
         ·simp
         simp -implicitDefEqProofs
         refine callG_own [0, 1, 3] rfl (w_wl3r pe pl pz ([112, 114, 105, 110, 116, 32] : List UInt8) (opT p1.op) ([59] : List UInt8) (by first | omega | (simp; omega))) ?_ ?_ ?_ ?_ ?_ ?_
         ·simp [Nat.add_assoc, List.range_succ, hw1]
         ·simp [Nat.add_assoc, List.range_succ, hw1]
         ·simp [Nat.add_assoc, List.range_succ, hw1]
         ·simp [Nat.add_assoc, List.range_succ, hw1]
         ·simp [Nat.add_assoc, List.range_succ, hw1]
         simp -implicitDefEqProofs [keys, callUpd, List.range_succ]
         try simp only [bodyK_normal]
         subst e
         refine Fin.plain ?_ ?_
         ·simp
         simp [List.range_succ, Nat.add_assoc, hw1]
        ·as_aux_lemma =>
         try simp at k9
         obtain ⟨f9, e⟩ := NO e k9
         try simp at f9
         refine SR ?_
         simp -implicitDefEqProofs
         refine EV.condT ?_
         simp -implicitDefEqProofs
         refine condT_intro (fun k10 => ?_) (fun k10 => ?_)
         ·as_aux_lemma =>
          try simp at k10
          obtain ⟨f10, e⟩ := PO e k10
          try simp at f10
          have := plT_len p1.p
          have := lineT_len pz [([100, 114, 111, 112, 32] : List UInt8), (plT p1.p), ([59] : List UInt8)]
          try simp only [List.map_cons, List.map_nil, List.sum_cons, List.sum_nil, List.length_cons, List.length_nil] at this
          refine RG ?_
          simp -implicitDefEqProofs
          refine callG_fun (w_tPlace' p1.p (by assumption) (by assumption)) ?_ ?_
          ·simp
          simp -implicitDefEqProofs
          refine callG_own [0, 1, 3] rfl (w_wl3r pe pl pz ([100, 114, 111, 112, 32] : List UInt8) (plT p1.p) ([59] : List UInt8) (by first | omega | (simp; omega))) ?_ ?_ ?_ ?_ ?_ ?_
          ·simp [Nat.add_assoc, List.range_succ, hw1]
          ·simp [Nat.add_assoc, List.range_succ, hw1]
          ·simp [Nat.add_assoc, List.range_succ, hw1]
          ·simp [Nat.add_assoc, List.range_succ, hw1]
          ·simp [Nat.add_assoc, List.range_succ, hw1]
          simp -implicitDefEqProofs [keys, callUpd, List.range_succ]
          try simp only [bodyK_normal]
          subst e
          refine Fin.plain ?_ ?_
          ·simp
          simp [List.range_succ, Nat.add_assoc, hw1]
         ·as_aux_lemma =>
          try simp at k10
          obtain ⟨f10, e⟩ := NO e k10
          try simp at f10
          have := lineT_len pz [([63] : List UInt8)]
          try simp only [List.map_cons, List.map_nil, List.sum_cons, List.sum_nil, List.length_cons, List.length_nil] at this
          refine RG ?_
          simp -implicitDefEqProofs
          refine callG_own [0, 1, 3] rfl (w_wl1r pe pl pz ([63] : List UInt8) (by first | omega | (simp; omega))) ?_ ?_ ?_ ?_ ?_ ?_
          ·simp [Nat.add_assoc, List.range_succ, hw1]
          ·simp [Nat.add_assoc, List.range_succ, hw1]
          ·simp [Nat.add_assoc, List.range_succ, hw1]
          ·simp [Nat.add_assoc, List.range_succ, hw1]
          ·simp [Nat.add_assoc, List.range_succ, hw1]
          simp -implicitDefEqProofs [keys, callUpd, List.range_succ]
          try simp only [bodyK_normal]
          subst e
          refine Fin.plain ?_ ?_
          ·simp
          ·simp [List.range_succ, Nat.add_assoc, hw1]
theorem tStmtB_eq (pe : Nat) (pl : List UInt8) (pz : Nat) (p1 : StmtD) : tStmtB pe pl pz p1 = (pl ++ stT p1 pz, pe + stE p1) := by
  obtain ⟨k, at_, name, ty, p, rv, op, then_, else_, arms⟩ := p1
  rw [stT, stE]
  unfold tStmtB
  dsimp only
  by_cases h0 : k = 0
  · simp only [if_pos h0]
  simp only [if_neg h0]
  by_cases h1 : k = 1
  · simp only [if_pos h1]
  simp only [if_neg h1]
  by_cases h2 : k = 2
  · simp only [if_pos h2]
    by_cases he : else_.length = 0
    · rw [if_neg (by omega), if_pos he, if_pos he]
      simp only [List.append_assoc, List.append_nil, List.nil_append, Nat.add_assoc, Nat.add_zero, Nat.zero_add]
    · rw [if_pos (by omega), if_neg he, if_neg he]
      simp only [List.append_assoc, Nat.add_assoc]
  simp only [if_neg h2]
  by_cases h3 : k = 3
  · simp only [if_pos h3, List.append_assoc, Nat.add_assoc]
  simp only [if_neg h3]
  by_cases h4 : k = 4
  · simp only [if_pos h4, List.append_assoc, Nat.add_assoc]
  simp only [if_neg h4]
  by_cases h5 : k = 5
  · simp only [if_pos h5]
  simp only [if_neg h5]
  by_cases h6 : k = 6
  · simp only [if_pos h6]
  simp only [if_neg h6]
  by_cases h7 : k = 7
  · simp only [if_pos h7]
  simp only [if_neg h7]
  by_cases h8 : k = 8
  · simp only [if_pos h8]
  simp only [if_neg h8]
def BlOK (M : Nat) : Prop := ∀ (l : List StmtD) (e n : Nat) (a : List UInt8), bkR (l.map stmtC) ≤ M → bkR (l.map stmtC) ≤ 1050000 → wfR (l.map stmtC) → n + 1 + bkR (l.map stmtC) ≤ 2100000 → a.length + 3000000 * bkR (l.map stmtC) ≤ 100000000000000 → QC prog 76 [.ptr 0 0 0 0, .ro 21 (l.map stmtC)] [.var 127 [.ptr 0 0 0 0, .sl 1 (e) 0 (a).length, .i .i64 ((n : Nat) : Int)], .row 5 (e) ((a).map byteV)] (.tup []) [.var 127 [.ptr 0 0 0 0, .sl 1 (e + blE l) 0 (a ++ blT l n).length, .i .i64 ((n : Nat) : Int)], .row 5 (e + blE l) ((a ++ blT l n).map byteV)]
def ArOK (M : Nat) : Prop := ∀ (l : List ArmD) (e n : Nat) (a : List UInt8), bkR (l.map armC) ≤ M → bkR (l.map armC) ≤ 1050000 → wfR (l.map armC) → n + 1 + bkR (l.map armC) ≤ 2100000 → a.length + 3000000 * bkR (l.map armC) ≤ 100000000000000 → QC prog 193 [.ptr 0 0 0 0, .ro 3 (l.map armC)] [.var 127 [.ptr 0 0 0 0, .sl 1 (e) 0 (a).length, .i .i64 ((n : Nat) : Int)], .row 5 (e) ((a).map byteV)] (.tup []) [.var 127 [.ptr 0 0 0 0, .sl 1 (e + arE l) 0 (a ++ arT l n).length, .i .i64 ((n : Nat) : Int)], .row 5 (e + arE l) ((a ++ arT l n).map byteV)]
theorem w_stmtM (M : Nat) (hP : BlOK M) (hQ : ArOK M) (u : StmtD) (e n : Nat) (a : List UInt8) (hm : bkL (stmtC u) ≤ M + 1) (hk : bkL (stmtC u) ≤ 1050000) (hw : wfL (stmtC u)) (hz : n + bkL (stmtC u) ≤ 2100000) (hl : a.length + 3000000 * bkL (stmtC u) ≤ 100000000000000) : QC prog 125 [.ptr 0 0 0 0, .agg [.i .i64 u.k, .i .i64 u.at_, .s u.name, .i .i64 u.ty.k, .s u.ty.name, .ro 3 (u.ty.l.map tyC), .s u.p.name, .ro 1 (u.p.path.map stepC), .i .i64 u.rv.k, .ro 4 (u.rv.ops.map operC), .s u.rv.p.name, .ro 1 (u.rv.p.path.map stepC), .s u.rv.name, .s u.rv.variant, .b u.op.num, .i .i64 u.op.n, .s u.op.p.name, .ro 1 (u.op.p.path.map stepC), .ro 21 (u.then_.map stmtC), .ro 21 (u.else_.map stmtC), .ro 3 (u.arms.map armC)]] [.var 127 [.ptr 0 0 0 0, .sl 1 (e) 0 (a).length, .i .i64 ((n : Nat) : Int)], .row 5 (e) ((a).map byteV)] (.tup []) [.var 127 [.ptr 0 0 0 0, .sl 1 (e + stE u) 0 (a ++ stT u n).length, .i .i64 ((n : Nat) : Int)], .row 5 (e + stE u) ((a ++ stT u n).map byteV)] := by
  obtain ⟨_, _, _, _, _, _, hs⟩ := stmt_parts u hw
  have h := w_tStmtB e a n u hw hk hz hl (fun l e n a hl' hw' hz' hl'' => hP l e n a (by rcases hl' with rfl | rfl <;> omega) (by rcases hl' with rfl | rfl <;> omega) hw' hz' hl'') (fun l e n a hl' hw' hz' hl'' => hQ l e n a (by subst hl'; omega) (by subst hl'; omega) hw' hz' hl'')
  rw [tStmtB_eq] at h
  exact h
theorem blM (M : Nat) (hS : ∀ (l : List StmtD) (u : StmtD), u ∈ l → bkR (l.map stmtC) ≤ M → ∀ (e n : Nat) (a : List UInt8), bkL (stmtC u) ≤ 1050000 → wfL (stmtC u) → n + bkL (stmtC u) ≤ 2100000 → a.length + 3000000 * bkL (stmtC u) ≤ 100000000000000 → QC prog 125 [.ptr 0 0 0 0, .agg [.i .i64 u.k, .i .i64 u.at_, .s u.name, .i .i64 u.ty.k, .s u.ty.name, .ro 3 (u.ty.l.map tyC), .s u.p.name, .ro 1 (u.p.path.map stepC), .i .i64 u.rv.k, .ro 4 (u.rv.ops.map operC), .s u.rv.p.name, .ro 1 (u.rv.p.path.map stepC), .s u.rv.name, .s u.rv.variant, .b u.op.num, .i .i64 u.op.n, .s u.op.p.name, .ro 1 (u.op.p.path.map stepC), .ro 21 (u.then_.map stmtC), .ro 21 (u.else_.map stmtC), .ro 3 (u.arms.map armC)]] [.var 127 [.ptr 0 0 0 0, .sl 1 (e) 0 (a).length, .i .i64 ((n : Nat) : Int)], .row 5 (e) ((a).map byteV)] (.tup []) [.var 127 [.ptr 0 0 0 0, .sl 1 (e + stE u) 0 (a ++ stT u n).length, .i .i64 ((n : Nat) : Int)], .row 5 (e + stE u) ((a ++ stT u n).map byteV)]) : BlOK M := by
  intro l e n a hm hk hw hz hl
  have h := w_tBlockB e a n l hw hz hl (fun u e n a hu hw' hz' hl' => hS l u hu hm e n a (by have := bkR_in (f := stmtC) hu; omega) hw' hz' hl')
  rw [tBlockB_eq] at h
  exact h
theorem arM (M : Nat) (hB : ∀ (l : List ArmD) (y : ArmD), y ∈ l → bkR (l.map armC) ≤ M → ∀ (e n : Nat) (a : List UInt8), bkR (y.body.map stmtC) ≤ 1050000 → wfR (y.body.map stmtC) → n + 1 + bkR (y.body.map stmtC) ≤ 2100000 → a.length + 3000000 * bkR (y.body.map stmtC) ≤ 100000000000000 → QC prog 76 [.ptr 0 0 0 0, .ro 21 (y.body.map stmtC)] [.var 127 [.ptr 0 0 0 0, .sl 1 (e) 0 (a).length, .i .i64 ((n : Nat) : Int)], .row 5 (e) ((a).map byteV)] (.tup []) [.var 127 [.ptr 0 0 0 0, .sl 1 (e + blE y.body) 0 (a ++ blT y.body n).length, .i .i64 ((n : Nat) : Int)], .row 5 (e + blE y.body) ((a ++ blT y.body n).map byteV)]) : ArOK M := by
  intro l e n a hm hk hw hz hl
  have h := w_tArmsB e a n l hw hz hl (fun b e n a hb hw' hz' hl' => by
    obtain ⟨y, hy, rfl⟩ := hb
    exact hB l y hy hm e n a (by have := bkR_in (f := armC) hy; simp only [armC_eq, bkL, bkV] at this; omega) hw' hz' hl')
  rw [tArmsB_eq] at h
  exact h
theorem w_all : ∀ M : Nat, BlOK M ∧ ArOK M
  | 0 => by
    refine ⟨blM 0 fun l u hu hm => ?_, arM 0 fun l u hu hm => ?_⟩
    · have := bkR_in (f := stmtC) hu
      simp only [stmtC_eq, bkL, bkV, ← Nat.add_assoc] at this
      omega
    · have := bkR_in (f := armC) hu
      simp only [armC_eq, bkL, bkV] at this
      omega
  | M + 1 => by
    obtain ⟨hP, hQ⟩ := w_all M
    refine ⟨blM (M + 1) fun l u hu hm e n a hk hw hz hl => w_stmtM M hP hQ u e n a (by have := bkR_in (f := stmtC) hu; omega) hk hw hz hl, arM (M + 1) fun l y hy hm e n a hk hw hz hl => hP y.body e n a (by have := bkR_in (f := armC) hy; simp only [armC_eq, bkL, bkV] at this; omega) hk hw hz hl⟩
theorem w_blk (l : List StmtD) (e n : Nat) (a : List UInt8) (hk : bkR (l.map stmtC) ≤ 1050000) (hw : wfR (l.map stmtC)) (hz : n + 1 + bkR (l.map stmtC) ≤ 2100000) (hl : a.length + 3000000 * bkR (l.map stmtC) ≤ 100000000000000) : QC prog 76 [.ptr 0 0 0 0, .ro 21 (l.map stmtC)] [.var 127 [.ptr 0 0 0 0, .sl 1 (e) 0 (a).length, .i .i64 ((n : Nat) : Int)], .row 5 (e) ((a).map byteV)] (.tup []) [.var 127 [.ptr 0 0 0 0, .sl 1 (e + blE l) 0 (a ++ blT l n).length, .i .i64 ((n : Nat) : Int)], .row 5 (e + blE l) ((a ++ blT l n).map byteV)] := (w_all _).1 l e n a (Nat.le_refl _) hk hw hz hl
def tTextA_l3  : List StructD → (List UInt8) → (List UInt8)
 | [], a3_0 => a3_0
 | x3 :: xs3, a3_0 => (if x3.drop_ = true then tTextA_l3 xs3 (a3_0 ++ (lineT 0 [([100, 114, 111, 112, 32] : List UInt8), ([115, 116, 114, 117, 99, 116, 32] : List UInt8), x3.name, ([32] : List UInt8), (brT (joinT fldT x3.fields))])) else tTextA_l3 xs3 (a3_0 ++ (lineT 0 [([] : List UInt8), ([115, 116, 114, 117, 99, 116, 32] : List UInt8), x3.name, ([32] : List UInt8), (brT (joinT fldT x3.fields))])))
def tTextA_l11  : List EnumD → (List UInt8) → (List UInt8)
 | [], a11_0 => a11_0
 | x11 :: xs11, a11_0 => tTextA_l11 xs11 (a11_0 ++ (lineT 0 [([101, 110, 117, 109, 32] : List UInt8), x11.name, ([32] : List UInt8), (brT (joinT varT x11.variants))]))
def tTextA_l16  : List FnD → (List UInt8) → (List UInt8)
 | [], a16_0 => a16_0
 | x16 :: xs16, a16_0 => tTextA_l16 xs16 (((a16_0 ++ (lineT 0 [([99, 111, 32] : List UInt8), x16.name, ([40] : List UInt8), (joinT fldT x16.params), ([41, 32, 123] : List UInt8)])) ++ blT x16.body 0) ++ (lineT 0 [([125] : List UInt8)]))
def tTextA (x0 : StructD) (r0 : List StructD) (pA : List StructD) (pB : List EnumD) (pC : List FnD) : (List UInt8) :=
 (bnd ((if x0.drop_ = true then tTextA_l3 r0 (lineT 0 [([100, 114, 111, 112, 32] : List UInt8), ([115, 116, 114, 117, 99, 116, 32] : List UInt8), x0.name, ([32] : List UInt8), (brT (joinT fldT x0.fields))]) else tTextA_l3 r0 (lineT 0 [([] : List UInt8), ([115, 116, 114, 117, 99, 116, 32] : List UInt8), x0.name, ([32] : List UInt8), (brT (joinT fldT x0.fields))]))) fun (v3 : (List UInt8)) => (bnd (tTextA_l11 pB v3) fun (v11 : (List UInt8)) => (bnd (tTextA_l16 pC v11) fun (v16 : (List UInt8)) => v16)))
theorem w_tTextA (x0 : StructD) (r0 : List StructD) (pA : List StructD) (pB : List EnumD) (pC : List FnD) (hX : pA = x0 :: r0) (hq0 : wfR (pA.map structC)) (hq1 : wfR (pB.map enumC)) (hq2 : wfR (pC.map fnC)) (hz : bkR (pA.map structC) + bkR (pB.map enumC) + bkR (pC.map fnC) ≤ 1050000) : QC prog 16 [.agg [.ro 4 (pA.map structC), .ro 3 (pB.map enumC), .ro 4 (pC.map fnC)]] [] (.s (tTextA x0 r0 pA pB pC)) [] := by
 refine QC.of_body tabOK func16 rfl (by kernel_rfl) ?_
 simp only [f16]
 generalize e : tTextA x0 r0 pA pB pC = R
 unfold tTextA at e
 have hw1 : IntKind.i64.wrap ((0 : Int) + 1) = 1 := by decide
 have mx0 : x0 ∈ pA := by rw [hX]; exact List.mem_cons_self
 have c00 : 0 < pA.length := by rw [hX]; simp
 have hp0 : (0 : Int) < (pA.length : Int) := by omega
 have hx00 : pA[0] = x0 := by simp [hX]
 have hdr0 : pA.drop 1 = r0 := by rw [hX]; rfl
 have hix0 := bkR_in (f := structC) mx0
 have hbx0 := (wfR_map _ _).1 hq0 _ mx0
 have hdx0 : bkR (pA.map structC) = bkL (structC x0) + bkR (r0.map structC) := by rw [hX]; rfl
 simp only [structC_eq, wfL, wfV, bkL, bkV] at hbx0 hix0 hdx0
 have hfx0 : wfR (x0.fields.map fieldC) := hbx0.2.2.1
 refine SR ?_
 simp -implicitDefEqProofs [hp0, c00, hx00]
 refine SR ?_
 simp -implicitDefEqProofs [hp0, c00, hx00]
 refine EV.seq (SR ?_)
 simp -implicitDefEqProofs [hp0, c00, hx00]
 obtain ⟨z3, e3, e⟩ := bnd_split e
 refine EV.nrm (fun v : { v : ((List UInt8)) × (Nat) // z3 = v.1 ∧ (fun (v3 : (List UInt8)) => v3.length + 3000000 * (bkR (pB.map enumC) + bkR (pC.map fnC)) ≤ 10000000000000 ∧ 0 < v3.length) v.1 } => (fun (v3 : (List UInt8)) (g3 : Nat) => (⟨[J, .ptr 0 0 0 0, J, .ptr 1 0 0 0, J, J, J, J, J, J, J, J, J, J, J, J, J, J, J, J, J, J, J, J, J, J, J, J, J, J, J, J, J, J, J, J, J, J, J, J, J, J, J, J, J, J, J, J, J, J, J, J, J, J, J, J, J, J, J, J, J, J, J, J, J, J, J, J], [.arr 0 3 [[.ro 4 (pA.map structC), .ro 3 (pB.map enumC), .ro 4 (pC.map fnC)]], .var 127 [.ptr 1 0 0 0, .sl 2 g3 0 v3.length, .i .i64 0], .row 5 g3 (v3.map byteV)]⟩ : St)) v.1.1 v.1.2) ?_ ?_
 ·skip
  refine EV.block ?_
  refine EV.loopP (fun x : { x : Nat × (List UInt8) × Nat // x.1 ≤ pA.length ∧ tTextA_l3 (pA.drop x.1) x.2.1 = z3 ∧ (fun (j3 : Nat) (a3_0 : List UInt8) (a3_g0 : Nat) => a3_0.length + 3000000 * (bkR ((pA.drop j3).map structC) + bkR (pB.map enumC) + bkR (pC.map fnC)) ≤ 10000000000000 ∧ 0 < a3_0.length) x.1 x.2.1 x.2.2 } => (fun (j3 : Nat) (a3_0 : List UInt8) (a3_g0 : Nat) => (⟨[J, .ptr 0 0 0 0, J, .ptr 1 0 0 0, J, J, J, J, J, J, J, J, .ro 4 (pA.map structC), .i .i64 (pA.length : Int), .i .i64 (j3 : Int), J, J, J, J, J, J, J, J, J, J, J, J, J, J, J, J, J, J, J, J, J, J, J, J, J, J, J, J, J, J, J, J, J, J, J, J, J, J, J, J, J, J, J, J, J, J, J, J, J, J, J, J, J], [.arr 0 3 [[.ro 4 (pA.map structC), .ro 3 (pB.map enumC), .ro 4 (pC.map fnC)]], .var 127 [.ptr 1 0 0 0, .sl 2 a3_g0 0 a3_0.length, .i .i64 0], .row 5 a3_g0 (a3_0.map byteV)]⟩ : St)) x.1.1 x.1.2.1 x.1.2.2) (fun x => pA.length - x.1.1) (pA.length) ?_ ?_
  ·skip
   refine SR ?_
   simp -implicitDefEqProofs [hp0, c00, hx00]
   refine EV.seq ?_
   refine EV.condT ?_
   simp -implicitDefEqProofs [hp0, c00, hx00]
   refine EV.skip ?_
   simp only [KN1, KN2, KN3]
   refine EV.seq (EV.block (SR ?_))
   simp -implicitDefEqProofs [hp0, c00, hx00]
   refine SR ?_
   simp -implicitDefEqProofs [hp0, c00, hx00]
   refine EV.seq (SR ?_)
   simp -implicitDefEqProofs [hp0, c00, hx00]
   refine EV.condT ?_
   simp -implicitDefEqProofs [hp0, c00, hx00]
   refine condT_intro (fun k1 => ?_) (fun k1 => ?_)
   ·try simp at k1
    obtain ⟨f1, e3⟩ := PO e3 k1
    try simp at f1
    refine RG ?_
    simp -implicitDefEqProofs [hp0, c00, hx00]
    have := joinT_len fldT fieldC 6 x0.fields fun x _ => fldT_len x
    have := brT_len (joinT fldT x0.fields)
    have := lineT_len 0 [([100, 114, 111, 112, 32] : List UInt8), ([115, 116, 114, 117, 99, 116, 32] : List UInt8), x0.name, ([32] : List UInt8), (brT (joinT fldT x0.fields))]
    try simp only [List.map_cons, List.map_nil, List.sum_cons, List.sum_nil, List.length_cons, List.length_nil] at this
    refine EV.drawG tabOK mixedOK ?_
    simp -implicitDefEqProofs [hp0, c00, hx00]
    refine callG_fun (w_jnF' x0.fields (by first | assumption | grind) (by first | assumption | omega)) ?_ ?_
    ·first | (simp; done) | (simp [hp0, c00, hx00]; done)
    simp -implicitDefEqProofs [hp0, c00, hx00]
    refine callG_fun (w_tBraced' (joinT fldT x0.fields) (by omega)) ?_ ?_
    ·first | (simp; done) | (simp [hp0, c00, hx00]; done)
    simp -implicitDefEqProofs [hp0, c00, hx00]
    refine callG_own [1, 3] rfl (w_wl5n 0 ([100, 114, 111, 112, 32] : List UInt8) ([115, 116, 114, 117, 99, 116, 32] : List UInt8) x0.name ([32] : List UInt8) (brT (joinT fldT x0.fields)) (by first | omega | (simp; omega))) ?_ ?_ ?_ ?_ ?_ ?_
    ·simp [Nat.add_assoc, List.range_succ, hw1]
    ·simp [Nat.add_assoc, List.range_succ, hw1]
    ·simp [Nat.add_assoc, List.range_succ, hw1]
    ·simp [Nat.add_assoc, List.range_succ, hw1]
    ·simp [Nat.add_assoc, List.range_succ, hw1]
    simp -implicitDefEqProofs [hp0, c00, hx00, keys, callUpd, List.range_succ]
    refine And.intro ?_ ?_
    ·first | decide +kernel | (simp -implicitDefEqProofs; decide +kernel) | (split <;> decide +kernel)
    try simp -implicitDefEqProofs
    refine RG ?_
    simp -implicitDefEqProofs [hp0, c00, hx00]
    refine ⟨⟨(1, (lineT 0 [([100, 114, 111, 112, 32] : List UInt8), ([115, 116, 114, 117, 99, 116, 32] : List UInt8), x0.name, ([32] : List UInt8), (brT (joinT fldT x0.fields))]), 6), c00, (by rw [hdr0]; exact e3), by ((try dsimp only); refine ⟨?_, ?_⟩ <;> (try rw [hdr0]) <;> (try simp only [List.drop_zero, List.length_append, List.length_cons, List.length_nil]) <;> omega)⟩, by (dsimp only; omega), ?_⟩
    refine Sub.trans (Sub.cutS (t' := [J, .ptr 0 0 0 0, J, .ptr 1 0 0 0, J, J, J, J, J, J, J, J, .ro 4 (pA.map structC), .i .i64 (pA.length : Int), .i .i64 1, J, J, J, J, J, J, J, J, J, J, J, J, J, J, J, J, J, J, J, J, J, J, J, J, J, J, J, J, J, J, J, J, J, J, J, J, J, J, J, J, J, J, J, J, J, J, J, J, J, J, J, J, J]) (h' := [.arr 0 3 [[.ro 4 (pA.map structC), .ro 3 (pB.map enumC), .ro 4 (pC.map fnC)]], .var 127 [.ptr 1 0 0 0, .sl 2 6 0 ((lineT 0 [([100, 114, 111, 112, 32] : List UInt8), ([115, 116, 114, 117, 99, 116, 32] : List UInt8), x0.name, ([32] : List UInt8), (brT (joinT fldT x0.fields))]).length), .i .i64 0], .row 5 6 ((lineT 0 [([100, 114, 111, 112, 32] : List UInt8), ([115, 116, 114, 117, 99, 116, 32] : List UInt8), x0.name, ([32] : List UInt8), (brT (joinT fldT x0.fields))]).map byteV)]) [0, 1, 4] (by decide) (by simp) ?_ ?_) ?_
    ·simp [allP, slotSel, toIdx, hp0, c00, hx00]
    ·simp [passed, toIdx, hp0, c00, hx00]
    try dsimp only
    refine Sub.cutF 3 (by simp) ?_ ?_ <;> simp [List.range_succ, toIdx_range, passed, hp0, c00, hx00]
   try simp at k1
   obtain ⟨f1, e3⟩ := NO e3 k1
   try simp at f1
   refine EV.skip ?_
   simp only [KN1, KN2, KN3]
   have := joinT_len fldT fieldC 6 x0.fields fun x _ => fldT_len x
   have := brT_len (joinT fldT x0.fields)
   have := lineT_len 0 [([] : List UInt8), ([115, 116, 114, 117, 99, 116, 32] : List UInt8), x0.name, ([32] : List UInt8), (brT (joinT fldT x0.fields))]
   try simp only [List.map_cons, List.map_nil, List.sum_cons, List.sum_nil, List.length_cons, List.length_nil] at this
   refine EV.drawG tabOK mixedOK ?_
   simp -implicitDefEqProofs [hp0, c00, hx00]
   refine callG_fun (w_jnF' x0.fields (by first | assumption | grind) (by first | assumption | omega)) ?_ ?_
   ·first | (simp; done) | (simp [hp0, c00, hx00]; done)
   simp -implicitDefEqProofs [hp0, c00, hx00]
   refine callG_fun (w_tBraced' (joinT fldT x0.fields) (by omega)) ?_ ?_
   ·first | (simp; done) | (simp [hp0, c00, hx00]; done)
   simp -implicitDefEqProofs [hp0, c00, hx00]
   refine callG_own [1, 3] rfl (w_wl5n 0 ([] : List UInt8) ([115, 116, 114, 117, 99, 116, 32] : List UInt8) x0.name ([32] : List UInt8) (brT (joinT fldT x0.fields)) (by first | omega | (simp; omega))) ?_ ?_ ?_ ?_ ?_ ?_
   ·simp [Nat.add_assoc, List.range_succ, hw1]
   ·simp [Nat.add_assoc, List.range_succ, hw1]
   ·simp [Nat.add_assoc, List.range_succ, hw1]
   ·simp [Nat.add_assoc, List.range_succ, hw1]
   ·simp [Nat.add_assoc, List.range_succ, hw1]
   simp -implicitDefEqProofs [hp0, c00, hx00, keys, callUpd, List.range_succ]
   refine And.intro ?_ ?_
   ·first | decide +kernel | (simp -implicitDefEqProofs; decide +kernel) | (split <;> decide +kernel)
   try simp -implicitDefEqProofs
   refine RG ?_
   simp -implicitDefEqProofs [hp0, c00, hx00]
   refine ⟨⟨(1, (lineT 0 [([] : List UInt8), ([115, 116, 114, 117, 99, 116, 32] : List UInt8), x0.name, ([32] : List UInt8), (brT (joinT fldT x0.fields))]), 6), c00, (by rw [hdr0]; exact e3), by ((try dsimp only); refine ⟨?_, ?_⟩ <;> (try rw [hdr0]) <;> (try simp only [List.drop_zero, List.length_append, List.length_cons, List.length_nil]) <;> omega)⟩, by (dsimp only; omega), ?_⟩
   refine Sub.trans (Sub.cutS (t' := [J, .ptr 0 0 0 0, J, .ptr 1 0 0 0, J, J, J, J, J, J, J, J, .ro 4 (pA.map structC), .i .i64 (pA.length : Int), .i .i64 1, J, J, J, J, J, J, J, J, J, J, J, J, J, J, J, J, J, J, J, J, J, J, J, J, J, J, J, J, J, J, J, J, J, J, J, J, J, J, J, J, J, J, J, J, J, J, J, J, J, J, J, J, J]) (h' := [.arr 0 3 [[.ro 4 (pA.map structC), .ro 3 (pB.map enumC), .ro 4 (pC.map fnC)]], .var 127 [.ptr 1 0 0 0, .sl 2 6 0 ((lineT 0 [([] : List UInt8), ([115, 116, 114, 117, 99, 116, 32] : List UInt8), x0.name, ([32] : List UInt8), (brT (joinT fldT x0.fields))]).length), .i .i64 0], .row 5 6 ((lineT 0 [([] : List UInt8), ([115, 116, 114, 117, 99, 116, 32] : List UInt8), x0.name, ([32] : List UInt8), (brT (joinT fldT x0.fields))]).map byteV)]) [0, 1, 4] (by decide) (by simp) ?_ ?_) ?_
   ·simp [allP, slotSel, toIdx, hp0, c00, hx00]
   ·simp [passed, toIdx, hp0, c00, hx00]
   try dsimp only
   refine Sub.cutF 3 (by simp) ?_ ?_ <;> simp [List.range_succ, toIdx_range, passed, hp0, c00, hx00]
  rintro ⟨⟨j3, a3_0, a3_g0⟩, hi3, e3, q3⟩
  simp only at hi3 e3 ⊢
  try dsimp only at q3
  refine SR ?_
  simp -implicitDefEqProofs [hp0, c00, hx00]
  refine EV.seq ?_
  refine EV.room 12 (by rfl) (fun mj3 => ?_)
  simp at mj3
  refine EV.condT ?_
  simp -implicitDefEqProofs [hp0, c00, hx00]
  refine condT_intro (fun k2 => ?_) (fun k2 => ?_)
  ·try simp at k2
   have u2 : j3 < pA.length := by omega
   obtain ⟨x3, hx3⟩ : ∃ z, pA[j3] = z := ⟨_, rfl⟩
   have mx3 : x3 ∈ pA := by rw [← hx3]; exact List.getElem_mem _
   have hix3 := bkR_in (f := structC) mx3
   have hbx3 := (wfR_map _ _).1 hq0 _ mx3
   have hdx3 := drop_bk (e := structC) hx3
   simp only [structC_eq, wfL, wfV, bkL, bkV] at hbx3 hix3 hdx3
   have hfx3 : wfR (x3.fields.map fieldC) := hbx3.2.2.1
   rw [List.drop_eq_getElem_cons u2, hx3, tTextA_l3] at e3
   refine EV.skip ?_
   simp only [KN1, KN2, KN3]
   refine EV.seq (EV.block (SR ?_))
   simp -implicitDefEqProofs [hp0, c00, hx00, k2, u2, hx3]
   refine SR ?_
   simp -implicitDefEqProofs [hp0, c00, hx00, k2, u2, hx3]
   refine EV.seq (SR ?_)
   simp -implicitDefEqProofs [hp0, c00, hx00, k2, u2, hx3]
   refine EV.condT ?_
   simp -implicitDefEqProofs [hp0, c00, hx00, k2, u2, hx3]
   refine condT_intro (fun k3 => ?_) (fun k3 => ?_)
   ·try simp at k3
    obtain ⟨f3, e3⟩ := PO e3 k3
    try simp at f3
    refine RG ?_
    simp -implicitDefEqProofs [hp0, c00, hx00, k2, u2, hx3]
    have := joinT_len fldT fieldC 6 x3.fields fun x _ => fldT_len x
    have := brT_len (joinT fldT x3.fields)
    have := lineT_len 0 [([100, 114, 111, 112, 32] : List UInt8), ([115, 116, 114, 117, 99, 116, 32] : List UInt8), x3.name, ([32] : List UInt8), (brT (joinT fldT x3.fields))]
    try simp only [List.map_cons, List.map_nil, List.sum_cons, List.sum_nil, List.length_cons, List.length_nil] at this
    refine EV.drawG tabOK mixedOK ?_
    simp -implicitDefEqProofs [hp0, c00, hx00, k2, u2, hx3]
    refine callG_fun (w_jnF' x3.fields (by first | assumption | grind) (by first | assumption | omega)) ?_ ?_
    ·first | (simp; done) | (simp [hp0, c00, hx00, k2, u2, hx3]; done)
    simp -implicitDefEqProofs [hp0, c00, hx00, k2, u2, hx3]
    refine callG_fun (w_tBraced' (joinT fldT x3.fields) (by omega)) ?_ ?_
    ·first | (simp; done) | (simp [hp0, c00, hx00, k2, u2, hx3]; done)
    simp -implicitDefEqProofs [hp0, c00, hx00, k2, u2, hx3]
    refine callG_own [1, 2, 4] rfl (w_wl5r a3_g0 a3_0 0 ([100, 114, 111, 112, 32] : List UInt8) ([115, 116, 114, 117, 99, 116, 32] : List UInt8) x3.name ([32] : List UInt8) (brT (joinT fldT x3.fields)) (by first | omega | (simp; omega))) ?_ ?_ ?_ ?_ ?_ ?_
    ·simp [Nat.add_assoc, List.range_succ, hw1]
    ·simp [Nat.add_assoc, List.range_succ, hw1]
    ·simp [Nat.add_assoc, List.range_succ, hw1]
    ·simp [Nat.add_assoc, List.range_succ, hw1]
    ·simp [Nat.add_assoc, List.range_succ, hw1]
    simp -implicitDefEqProofs [hp0, c00, hx00, k2, u2, hx3, keys, callUpd, List.range_succ]
    refine And.intro ?_ ?_
    ·first | decide +kernel | (simp -implicitDefEqProofs; decide +kernel) | (split <;> decide +kernel)
    try simp -implicitDefEqProofs
    refine RG ?_
    simp -implicitDefEqProofs [hp0, c00, hx00, k2, u2, hx3]
    have w3 : IntKind.i64.wrap ((j3 : Int) + 1) = (j3 : Int) + 1 := wrap_in _ (by omega) (by omega)
    refine ⟨⟨(j3 + 1, (a3_0 ++ (lineT 0 [([100, 114, 111, 112, 32] : List UInt8), ([115, 116, 114, 117, 99, 116, 32] : List UInt8), x3.name, ([32] : List UInt8), (brT (joinT fldT x3.fields))])), (a3_g0 + 7)), by omega, e3, by ((try dsimp only); refine ⟨?_, ?_⟩ <;> (try rw [hdr0]) <;> (try simp only [List.drop_zero, List.length_append, List.length_cons, List.length_nil]) <;> omega)⟩, by dsimp only; omega, ?_⟩
    try dsimp only
    refine Sub.cutF 3 (by simp) ?_ ?_ <;> simp [List.range_succ, toIdx_range, passed, hp0, c00, hx00, k2, u2, hx3, w3]
   try simp at k3
   obtain ⟨f3, e3⟩ := NO e3 k3
   try simp at f3
   refine EV.skip ?_
   simp only [KN1, KN2, KN3]
   have := joinT_len fldT fieldC 6 x3.fields fun x _ => fldT_len x
   have := brT_len (joinT fldT x3.fields)
   have := lineT_len 0 [([] : List UInt8), ([115, 116, 114, 117, 99, 116, 32] : List UInt8), x3.name, ([32] : List UInt8), (brT (joinT fldT x3.fields))]
   try simp only [List.map_cons, List.map_nil, List.sum_cons, List.sum_nil, List.length_cons, List.length_nil] at this
   refine EV.drawG tabOK mixedOK ?_
   simp -implicitDefEqProofs [hp0, c00, hx00, k2, u2, hx3]
   refine callG_fun (w_jnF' x3.fields (by first | assumption | grind) (by first | assumption | omega)) ?_ ?_
   ·first | (simp; done) | (simp [hp0, c00, hx00, k2, u2, hx3]; done)
   simp -implicitDefEqProofs [hp0, c00, hx00, k2, u2, hx3]
   refine callG_fun (w_tBraced' (joinT fldT x3.fields) (by omega)) ?_ ?_
   ·first | (simp; done) | (simp [hp0, c00, hx00, k2, u2, hx3]; done)
   simp -implicitDefEqProofs [hp0, c00, hx00, k2, u2, hx3]
   refine callG_own [1, 2, 4] rfl (w_wl5r a3_g0 a3_0 0 ([] : List UInt8) ([115, 116, 114, 117, 99, 116, 32] : List UInt8) x3.name ([32] : List UInt8) (brT (joinT fldT x3.fields)) (by first | omega | (simp; omega))) ?_ ?_ ?_ ?_ ?_ ?_
   ·simp [Nat.add_assoc, List.range_succ, hw1]
   ·simp [Nat.add_assoc, List.range_succ, hw1]
   ·simp [Nat.add_assoc, List.range_succ, hw1]
   ·simp [Nat.add_assoc, List.range_succ, hw1]
   ·simp [Nat.add_assoc, List.range_succ, hw1]
   simp -implicitDefEqProofs [hp0, c00, hx00, k2, u2, hx3, keys, callUpd, List.range_succ]
   refine And.intro ?_ ?_
   ·first | decide +kernel | (simp -implicitDefEqProofs; decide +kernel) | (split <;> decide +kernel)
   try simp -implicitDefEqProofs
   refine RG ?_
   simp -implicitDefEqProofs [hp0, c00, hx00, k2, u2, hx3]
   have w3 : IntKind.i64.wrap ((j3 : Int) + 1) = (j3 : Int) + 1 := wrap_in _ (by omega) (by omega)
   refine ⟨⟨(j3 + 1, (a3_0 ++ (lineT 0 [([] : List UInt8), ([115, 116, 114, 117, 99, 116, 32] : List UInt8), x3.name, ([32] : List UInt8), (brT (joinT fldT x3.fields))])), (a3_g0 + 7)), by omega, e3, by ((try dsimp only); refine ⟨?_, ?_⟩ <;> (try rw [hdr0]) <;> (try simp only [List.drop_zero, List.length_append, List.length_cons, List.length_nil]) <;> omega)⟩, by dsimp only; omega, ?_⟩
   try dsimp only
   refine Sub.cutF 3 (by simp) ?_ ?_ <;> simp [List.range_succ, toIdx_range, passed, hp0, c00, hx00, k2, u2, hx3, w3]
  try simp at k2
  have d2 : pA.drop j3 = [] := List.drop_eq_nil_of_le (by omega)
  rw [d2, tTextA_l3] at e3
  refine EV.exit ?_
  simp -implicitDefEqProofs
  refine ⟨⟨(a3_0, a3_g0), e3.symm, by ((try dsimp only); refine ⟨?_, ?_⟩ <;> (try rw [hdr0]) <;> (try simp only [List.drop_zero, List.length_append, List.length_cons, List.length_nil]) <;> omega)⟩, ?_⟩
  try dsimp only
  refine Sub.cutF 3 (by simp) ?_ ?_ <;> simp [List.range_succ, toIdx_range, passed, hp0, c00, hx00]
 ·skip
  rintro ⟨⟨v3, g3⟩, e3, p3⟩
  simp only [KN1, KN2, KN3, KN4]
  try dsimp only at p3
  replace e := bnd_on e e3
  try dsimp only at e
  refine EV.seq (SR ?_)
  simp -implicitDefEqProofs [hp0, c00, hx00]
  obtain ⟨z11, e11, e⟩ := bnd_split e
  refine EV.nrm (fun v : { v : ((List UInt8)) × (Nat) // z11 = v.1 ∧ (fun (v11 : (List UInt8)) => v11.length + 3000000 * (bkR (pC.map fnC)) ≤ 10000000000000 ∧ 0 < v11.length) v.1 } => (fun (v11 : (List UInt8)) (g11 : Nat) => (⟨[J, .ptr 0 0 0 0, J, .ptr 1 0 0 0, J, J, J, J, J, J, J, J, J, J, J, J, J, J, J, J, J, J, J, J, J, J, J, J, J, J, J, J, J, J, J, J, J, J, J, J, J, J, J, J, J, J, J, J, J, J, J, J, J, J, J, J, J, J, J, J, J, J, J, J, J, J, J, J], [.arr 0 3 [[.ro 4 (pA.map structC), .ro 3 (pB.map enumC), .ro 4 (pC.map fnC)]], .var 127 [.ptr 1 0 0 0, .sl 2 g11 0 v11.length, .i .i64 0], .row 5 g11 (v11.map byteV)]⟩ : St)) v.1.1 v.1.2) ?_ ?_
  ·skip
   refine EV.block ?_
   refine EV.loopB (fun x : { x : Nat × (List UInt8) × Nat // x.1 ≤ pB.length ∧ tTextA_l11 (pB.drop x.1) x.2.1 = z11 ∧ (fun (j11 : Nat) (a11_0 : List UInt8) (a11_g0 : Nat) => a11_0.length + 3000000 * (bkR ((pB.drop j11).map enumC) + bkR (pC.map fnC)) ≤ 10000000000000 ∧ 0 < a11_0.length) x.1 x.2.1 x.2.2 } => (fun (j11 : Nat) (a11_0 : List UInt8) (a11_g0 : Nat) => (⟨[J, .ptr 0 0 0 0, J, .ptr 1 0 0 0, J, J, J, J, J, J, J, J, J, J, J, J, J, J, J, J, J, J, J, J, J, J, J, J, J, J, J, .ro 3 (pB.map enumC), .i .i64 (pB.length : Int), .i .i64 (j11 : Int), J, J, J, J, J, J, J, J, J, J, J, J, J, J, J, J, J, J, J, J, J, J, J, J, J, J, J, J, J, J, J, J, J, J], [.arr 0 3 [[.ro 4 (pA.map structC), .ro 3 (pB.map enumC), .ro 4 (pC.map fnC)]], .var 127 [.ptr 1 0 0 0, .sl 2 a11_g0 0 a11_0.length, .i .i64 0], .row 5 a11_g0 (a11_0.map byteV)]⟩ : St)) x.1.1 x.1.2.1 x.1.2.2) (fun x => pB.length - x.1.1) ⟨(0, v3, g3), Nat.zero_le _, e11, by ((try dsimp only); refine ⟨?_, ?_⟩ <;> (try rw [hdr0]) <;> (try simp only [List.drop_zero, List.length_append, List.length_cons, List.length_nil]) <;> omega)⟩ ?_ ?_
   ·skip
    try dsimp only
    try dsimp only
    refine Sub.cutF 3 (by simp) ?_ ?_ <;> simp [List.range_succ, toIdx_range, passed, hp0, c00, hx00]
   rintro ⟨⟨j11, a11_0, a11_g0⟩, hi11, e11, q11⟩
   simp only at hi11 e11 ⊢
   try dsimp only at q11
   refine SR ?_
   simp -implicitDefEqProofs [hp0, c00, hx00]
   refine EV.seq ?_
   refine EV.room 31 (by rfl) (fun mj11 => ?_)
   simp at mj11
   refine EV.condT ?_
   simp -implicitDefEqProofs [hp0, c00, hx00]
   refine condT_intro (fun k4 => ?_) (fun k4 => ?_)
   ·try simp at k4
    have u4 : j11 < pB.length := by omega
    obtain ⟨x11, hx11⟩ : ∃ z, pB[j11] = z := ⟨_, rfl⟩
    have mx11 : x11 ∈ pB := by rw [← hx11]; exact List.getElem_mem _
    have hix11 := bkR_in (f := enumC) mx11
    have hbx11 := (wfR_map _ _).1 hq1 _ mx11
    have hdx11 := drop_bk (e := enumC) hx11
    simp only [enumC_eq, wfL, wfV, bkL, bkV] at hbx11 hix11 hdx11
    have hfx11 : wfR (x11.variants.map variantC) := hbx11.2.1
    rw [List.drop_eq_getElem_cons u4, hx11, tTextA_l11] at e11
    refine EV.skip ?_
    simp only [KN1, KN2, KN3]
    refine EV.seq (EV.block (SR ?_))
    simp -implicitDefEqProofs [hp0, c00, hx00, k4, u4, hx11]
    have := joinT_len varT variantC 6 x11.variants fun x _ => varT_len x
    have := brT_len (joinT varT x11.variants)
    have := lineT_len 0 [([101, 110, 117, 109, 32] : List UInt8), x11.name, ([32] : List UInt8), (brT (joinT varT x11.variants))]
    try simp only [List.map_cons, List.map_nil, List.sum_cons, List.sum_nil, List.length_cons, List.length_nil] at this
    refine EV.drawG tabOK mixedOK ?_
    simp -implicitDefEqProofs [hp0, c00, hx00, k4, u4, hx11]
    refine callG_fun (w_jnV' x11.variants (by first | assumption | grind) (by first | assumption | omega)) ?_ ?_
    ·first | (simp; done) | (simp [hp0, c00, hx00, k4, u4, hx11]; done)
    simp -implicitDefEqProofs [hp0, c00, hx00, k4, u4, hx11]
    refine callG_fun (w_tBraced' (joinT varT x11.variants) (by omega)) ?_ ?_
    ·first | (simp; done) | (simp [hp0, c00, hx00, k4, u4, hx11]; done)
    simp -implicitDefEqProofs [hp0, c00, hx00, k4, u4, hx11]
    refine callG_own [1, 2, 4] rfl (w_wl4r a11_g0 a11_0 0 ([101, 110, 117, 109, 32] : List UInt8) x11.name ([32] : List UInt8) (brT (joinT varT x11.variants)) (by first | omega | (simp; omega))) ?_ ?_ ?_ ?_ ?_ ?_
    ·simp [Nat.add_assoc, List.range_succ, hw1]
    ·simp [Nat.add_assoc, List.range_succ, hw1]
    ·simp [Nat.add_assoc, List.range_succ, hw1]
    ·simp [Nat.add_assoc, List.range_succ, hw1]
    ·simp [Nat.add_assoc, List.range_succ, hw1]
    simp -implicitDefEqProofs [hp0, c00, hx00, k4, u4, hx11, keys, callUpd, List.range_succ]
    refine And.intro ?_ ?_
    ·first | decide +kernel | (simp -implicitDefEqProofs; decide +kernel) | (split <;> decide +kernel)
    try simp -implicitDefEqProofs
    refine RG ?_
    simp -implicitDefEqProofs [hp0, c00, hx00, k4, u4, hx11]
    have w11 : IntKind.i64.wrap ((j11 : Int) + 1) = (j11 : Int) + 1 := wrap_in _ (by omega) (by omega)
    refine ⟨⟨(j11 + 1, (a11_0 ++ (lineT 0 [([101, 110, 117, 109, 32] : List UInt8), x11.name, ([32] : List UInt8), (brT (joinT varT x11.variants))])), (a11_g0 + 6)), by omega, e11, by ((try dsimp only); refine ⟨?_, ?_⟩ <;> (try rw [hdr0]) <;> (try simp only [List.drop_zero, List.length_append, List.length_cons, List.length_nil]) <;> omega)⟩, by dsimp only; omega, ?_⟩
    try dsimp only
    refine Sub.cutF 3 (by simp) ?_ ?_ <;> simp [List.range_succ, toIdx_range, passed, hp0, c00, hx00, k4, u4, hx11, w11]
   try simp at k4
   have d4 : pB.drop j11 = [] := List.drop_eq_nil_of_le (by omega)
   rw [d4, tTextA_l11] at e11
   refine EV.exit ?_
   simp -implicitDefEqProofs
   refine ⟨⟨(a11_0, a11_g0), e11.symm, by ((try dsimp only); refine ⟨?_, ?_⟩ <;> (try rw [hdr0]) <;> (try simp only [List.drop_zero, List.length_append, List.length_cons, List.length_nil]) <;> omega)⟩, ?_⟩
   try dsimp only
   refine Sub.cutF 3 (by simp) ?_ ?_ <;> simp [List.range_succ, toIdx_range, passed, hp0, c00, hx00]
  ·skip
   rintro ⟨⟨v11, g11⟩, e11, p11⟩
   simp only [KN1, KN2, KN3, KN4]
   try dsimp only at p11
   replace e := bnd_on e e11
   try dsimp only at e
   refine EV.seq (SR ?_)
   simp -implicitDefEqProofs [hp0, c00, hx00]
   obtain ⟨z16, e16, e⟩ := bnd_split e
   refine EV.nrm (fun v : { v : ((List UInt8)) × (Nat) // z16 = v.1 ∧ (fun (v16 : (List UInt8)) => v16.length + 3000000 * (0) ≤ 10000000000000 ∧ 0 < v16.length) v.1 } => (fun (v16 : (List UInt8)) (g16 : Nat) => (⟨[J, J, J, .ptr 1 0 0 0, J, J, J, J, J, J, J, J, J, J, J, J, J, J, J, J, J, J, J, J, J, J, J, J, J, J, J, J, J, J, J, J, J, J, J, J, J, J, J, J, J, J, J, J, J, J, J, J, J, J, J, J, J, J, J, J, J, J, J, J, J, J, J, J], [.arr 0 3 [[.ro 4 (pA.map structC), .ro 3 (pB.map enumC), .ro 4 (pC.map fnC)]], .var 127 [.ptr 1 0 0 0, .sl 2 g16 0 v16.length, .i .i64 0], .row 5 g16 (v16.map byteV)]⟩ : St)) v.1.1 v.1.2) ?_ ?_
   ·skip
    refine EV.block ?_
    refine EV.loopB (fun x : { x : Nat × (List UInt8) × Nat // x.1 ≤ pC.length ∧ tTextA_l16 (pC.drop x.1) x.2.1 = z16 ∧ (fun (j16 : Nat) (a16_0 : List UInt8) (a16_g0 : Nat) => a16_0.length + 3000000 * (bkR ((pC.drop j16).map fnC)) ≤ 10000000000000 ∧ 0 < a16_0.length) x.1 x.2.1 x.2.2 } => (fun (j16 : Nat) (a16_0 : List UInt8) (a16_g0 : Nat) => (⟨[J, J, J, .ptr 1 0 0 0, J, J, J, J, J, J, J, J, J, J, J, J, J, J, J, J, J, J, J, J, J, J, J, J, J, J, J, J, J, J, J, J, J, J, J, J, J, J, J, J, J, J, J, .ro 4 (pC.map fnC), .i .i64 (pC.length : Int), .i .i64 (j16 : Int), J, J, J, J, J, J, J, J, J, J, J, J, J, J, J, J, J, J], [.arr 0 3 [[.ro 4 (pA.map structC), .ro 3 (pB.map enumC), .ro 4 (pC.map fnC)]], .var 127 [.ptr 1 0 0 0, .sl 2 a16_g0 0 a16_0.length, .i .i64 0], .row 5 a16_g0 (a16_0.map byteV)]⟩ : St)) x.1.1 x.1.2.1 x.1.2.2) (fun x => pC.length - x.1.1) ⟨(0, v11, g11), Nat.zero_le _, e16, by ((try dsimp only); refine ⟨?_, ?_⟩ <;> (try rw [hdr0]) <;> (try simp only [List.drop_zero, List.length_append, List.length_cons, List.length_nil]) <;> omega)⟩ ?_ ?_
    ·skip
     try dsimp only
     try dsimp only
     refine Sub.cutF 3 (by simp) ?_ ?_ <;> simp [List.range_succ, toIdx_range, passed, hp0, c00, hx00]
    rintro ⟨⟨j16, a16_0, a16_g0⟩, hi16, e16, q16⟩
    simp only at hi16 e16 ⊢
    try dsimp only at q16
    refine SR ?_
    simp -implicitDefEqProofs [hp0, c00, hx00]
    refine EV.seq ?_
    refine EV.room 47 (by rfl) (fun mj16 => ?_)
    simp at mj16
    refine EV.condT ?_
    simp -implicitDefEqProofs [hp0, c00, hx00]
    refine condT_intro (fun k5 => ?_) (fun k5 => ?_)
    ·try simp at k5
     have u5 : j16 < pC.length := by omega
     obtain ⟨x16, hx16⟩ : ∃ z, pC[j16] = z := ⟨_, rfl⟩
     have mx16 : x16 ∈ pC := by rw [← hx16]; exact List.getElem_mem _
     have hix16 := bkR_in (f := fnC) mx16
     have hbx16 := (wfR_map _ _).1 hq2 _ mx16
     have hdx16 := drop_bk (e := fnC) hx16
     simp only [fnC_eq, wfL, wfV, bkL, bkV] at hbx16 hix16 hdx16
     have hfx16 : wfR (x16.params.map fieldC) := hbx16.2.1
     have hgx16 : wfR (x16.body.map stmtC) := hbx16.2.2.1
     rw [List.drop_eq_getElem_cons u5, hx16, tTextA_l16] at e16
     refine EV.skip ?_
     simp only [KN1, KN2, KN3]
     refine EV.seq (EV.block (SR ?_))
     simp -implicitDefEqProofs [hp0, c00, hx00, k5, u5, hx16]
     refine EV.seq ?_
     have := joinT_len fldT fieldC 6 x16.params fun x _ => fldT_len x
     have := lineT_len 0 [([99, 111, 32] : List UInt8), x16.name, ([40] : List UInt8), (joinT fldT x16.params), ([41, 32, 123] : List UInt8)]
     try simp only [List.map_cons, List.map_nil, List.sum_cons, List.sum_nil, List.length_cons, List.length_nil] at this
     refine EV.drawG tabOK mixedOK ?_
     simp -implicitDefEqProofs [hp0, c00, hx00, k5, u5, hx16]
     refine callG_fun (w_jnF' x16.params (by first | assumption | grind) (by first | assumption | omega)) ?_ ?_
     ·first | (simp; done) | (simp [hp0, c00, hx00, k5, u5, hx16]; done)
     simp -implicitDefEqProofs [hp0, c00, hx00, k5, u5, hx16]
     refine callG_own [1, 2, 4] rfl (w_wl5r a16_g0 a16_0 0 ([99, 111, 32] : List UInt8) x16.name ([40] : List UInt8) (joinT fldT x16.params) ([41, 32, 123] : List UInt8) (by first | omega | (simp; omega))) ?_ ?_ ?_ ?_ ?_ ?_
     ·simp [Nat.add_assoc, List.range_succ, hw1]
     ·simp [Nat.add_assoc, List.range_succ, hw1]
     ·simp [Nat.add_assoc, List.range_succ, hw1]
     ·simp [Nat.add_assoc, List.range_succ, hw1]
     ·simp [Nat.add_assoc, List.range_succ, hw1]
     simp -implicitDefEqProofs [hp0, c00, hx00, k5, u5, hx16, keys, callUpd, List.range_succ]
     refine And.intro ?_ ?_
     ·first | decide +kernel | (simp -implicitDefEqProofs; decide +kernel) | (split <;> decide +kernel)
     try simp -implicitDefEqProofs
     refine EV.seq ?_
     have := blT_len x16.body 0 (by omega)
     refine RG ?_
     simp -implicitDefEqProofs [hp0, c00, hx00, k5, u5, hx16]
     refine callG_own [1, 2] rfl (w_blk x16.body (a16_g0 + 7) 0 (a16_0 ++ (lineT 0 [([99, 111, 32] : List UInt8), x16.name, ([40] : List UInt8), (joinT fldT x16.params), ([41, 32, 123] : List UInt8)])) (by omega) (by assumption) (by omega) (by (try simp only [List.length_append, List.length_cons, List.length_nil]); omega)) ?_ ?_ ?_ ?_ ?_ ?_
     ·simp [Nat.add_assoc, List.range_succ, hw1]
     ·simp [Nat.add_assoc, List.range_succ, hw1]
     ·simp [Nat.add_assoc, List.range_succ, hw1]
     ·simp [Nat.add_assoc, List.range_succ, hw1]
     ·simp [Nat.add_assoc, List.range_succ, hw1]
     simp -implicitDefEqProofs [hp0, c00, hx00, k5, u5, hx16, keys, callUpd, List.range_succ]
     have := lineT_len 0 [([125] : List UInt8)]
     try simp only [List.map_cons, List.map_nil, List.sum_cons, List.sum_nil, List.length_cons, List.length_nil] at this
     refine RG ?_
     simp -implicitDefEqProofs [hp0, c00, hx00, k5, u5, hx16]
     refine callG_own [1, 2, 5] rfl (w_wl1r ((a16_g0 + 7) + blE x16.body) ((a16_0 ++ (lineT 0 [([99, 111, 32] : List UInt8), x16.name, ([40] : List UInt8), (joinT fldT x16.params), ([41, 32, 123] : List UInt8)])) ++ blT x16.body 0) 0 ([125] : List UInt8) (by first | omega | (simp; omega))) ?_ ?_ ?_ ?_ ?_ ?_
     ·simp [Nat.add_assoc, List.range_succ, hw1]
     ·simp [Nat.add_assoc, List.range_succ, hw1]
     ·simp [Nat.add_assoc, List.range_succ, hw1]
     ·simp [Nat.add_assoc, List.range_succ, hw1]
     ·simp [Nat.add_assoc, List.range_succ, hw1]
     simp -implicitDefEqProofs [hp0, c00, hx00, k5, u5, hx16, keys, callUpd, List.range_succ]
     refine RG ?_
     simp -implicitDefEqProofs [hp0, c00, hx00, k5, u5, hx16]
     have w16 : IntKind.i64.wrap ((j16 : Int) + 1) = (j16 : Int) + 1 := wrap_in _ (by omega) (by omega)
     refine ⟨⟨(j16 + 1, (((a16_0 ++ (lineT 0 [([99, 111, 32] : List UInt8), x16.name, ([40] : List UInt8), (joinT fldT x16.params), ([41, 32, 123] : List UInt8)])) ++ blT x16.body 0) ++ (lineT 0 [([125] : List UInt8)])), (((a16_g0 + 7) + blE x16.body) + 3)), by omega, e16, by ((try dsimp only); refine ⟨?_, ?_⟩ <;> (try rw [hdr0]) <;> (try simp only [List.drop_zero, List.length_append, List.length_cons, List.length_nil]) <;> omega)⟩, by dsimp only; omega, ?_⟩
     try dsimp only
     refine Sub.cutF 3 (by simp) ?_ ?_ <;> simp [List.range_succ, toIdx_range, passed, hp0, c00, hx00, k5, u5, hx16, w16]
    try simp at k5
    have d5 : pC.drop j16 = [] := List.drop_eq_nil_of_le (by omega)
    rw [d5, tTextA_l16] at e16
    refine EV.exit ?_
    simp -implicitDefEqProofs
    refine ⟨⟨(a16_0, a16_g0), e16.symm, by ((try dsimp only); refine ⟨?_, ?_⟩ <;> (try rw [hdr0]) <;> (try simp only [List.drop_zero, List.length_append, List.length_cons, List.length_nil]) <;> omega)⟩, ?_⟩
    try dsimp only
    refine Sub.cutF 3 (by simp) ?_ ?_ <;> simp [List.range_succ, toIdx_range, passed, hp0, c00, hx00]
   ·skip
    rintro ⟨⟨v16, g16⟩, e16, p16⟩
    simp only [KN1, KN2, KN3, KN4]
    try dsimp only at p16
    replace e := bnd_on e e16
    try dsimp only at e
    refine SR ?_
    simp -implicitDefEqProofs [hp0, c00, hx00]
    refine callG_own [1, 2] rfl (walk35rW g16 v16 (List.ne_nil_of_length_pos (by first | omega | (simp; omega))) (.ptr 0 0 0 0) (.i .i64 0)) ?_ ?_ ?_ ?_ ?_ ?_
    ·simp [Nat.add_assoc]
    ·simp [Nat.add_assoc]
    ·simp [Nat.add_assoc]
    ·simp [Nat.add_assoc]
    ·simp [Nat.add_assoc]
    simp -implicitDefEqProofs [hp0, c00, hx00, keys, callUpd, List.range_succ]
    refine EV.ret ?_
    simp only [KR1, KR2, KR3, KR4]
    subst e
    refine Fin.pure0 ?_
    first | (simp; done) | (simp <;> grind)
def tTextB_l11  : List EnumD → (List UInt8) → (List UInt8)
 | [], a11_0 => a11_0
 | x11 :: xs11, a11_0 => tTextB_l11 xs11 (a11_0 ++ (lineT 0 [([101, 110, 117, 109, 32] : List UInt8), x11.name, ([32] : List UInt8), (brT (joinT varT x11.variants))]))
def tTextB_l16  : List FnD → (List UInt8) → (List UInt8)
 | [], a16_0 => a16_0
 | x16 :: xs16, a16_0 => tTextB_l16 xs16 (((a16_0 ++ (lineT 0 [([99, 111, 32] : List UInt8), x16.name, ([40] : List UInt8), (joinT fldT x16.params), ([41, 32, 123] : List UInt8)])) ++ blT x16.body 0) ++ (lineT 0 [([125] : List UInt8)]))
def tTextB (x0 : EnumD) (r0 : List EnumD) (pB : List EnumD) (pC : List FnD) : (List UInt8) :=
 (bnd (tTextB_l11 r0 (lineT 0 [([101, 110, 117, 109, 32] : List UInt8), x0.name, ([32] : List UInt8), (brT (joinT varT x0.variants))])) fun (v11 : (List UInt8)) => (bnd (tTextB_l16 pC v11) fun (v16 : (List UInt8)) => v16))
theorem w_tTextB (x0 : EnumD) (r0 : List EnumD) (pB : List EnumD) (pC : List FnD) (hX : pB = x0 :: r0) (hq1 : wfR (pB.map enumC)) (hq2 : wfR (pC.map fnC)) (hz : bkR (pB.map enumC) + bkR (pC.map fnC) ≤ 1050000) : QC prog 16 [.agg [.ro 4 (([] : List StructD).map structC), .ro 3 (pB.map enumC), .ro 4 (pC.map fnC)]] [] (.s (tTextB x0 r0 pB pC)) [] := by
 refine QC.of_body tabOK func16 rfl (by kernel_rfl) ?_
 simp only [f16]
 generalize e : tTextB x0 r0 pB pC = R
 unfold tTextB at e
 have hw1 : IntKind.i64.wrap ((0 : Int) + 1) = 1 := by decide
 have mx0 : x0 ∈ pB := by rw [hX]; exact List.mem_cons_self
 have c00 : 0 < pB.length := by rw [hX]; simp
 have hp0 : (0 : Int) < (pB.length : Int) := by omega
 have hx00 : pB[0] = x0 := by simp [hX]
 have hdr0 : pB.drop 1 = r0 := by rw [hX]; rfl
 have hix0 := bkR_in (f := enumC) mx0
 have hbx0 := (wfR_map _ _).1 hq1 _ mx0
 have hdx0 : bkR (pB.map enumC) = bkL (enumC x0) + bkR (r0.map enumC) := by rw [hX]; rfl
 simp only [enumC_eq, wfL, wfV, bkL, bkV] at hbx0 hix0 hdx0
 have hfx0 : wfR (x0.variants.map variantC) := hbx0.2.1
 refine SR ?_
 simp -implicitDefEqProofs [hp0, c00, hx00]
 refine SR ?_
 simp -implicitDefEqProofs [hp0, c00, hx00]
 refine EV.seq (SR ?_)
 simp -implicitDefEqProofs [hp0, c00, hx00]
 refine EV.block ?_
 refine EV.rounds 1 ?_
 refine ER.succ ?_
 refine SR ?_
 simp -implicitDefEqProofs [hp0, c00, hx00]
 refine EV.seq ?_
 refine EV.condT ?_
 simp -implicitDefEqProofs [hp0, c00, hx00]
 refine EV.exit ?_
 simp -implicitDefEqProofs
 refine EV.seq (SR ?_)
 simp -implicitDefEqProofs [hp0, c00, hx00]
 obtain ⟨z11, e11, e⟩ := bnd_split e
 refine EV.nrm (fun v : { v : ((List UInt8)) × (Nat) // z11 = v.1 ∧ (fun (v11 : (List UInt8)) => v11.length + 3000000 * (bkR (pC.map fnC)) ≤ 10000000000000 ∧ 0 < v11.length) v.1 } => (fun (v11 : (List UInt8)) (g11 : Nat) => (⟨[J, .ptr 0 0 0 0, J, .ptr 1 0 0 0, J, J, J, J, J, J, J, J, J, J, J, J, J, J, J, J, J, J, J, J, J, J, J, J, J, J, J, J, J, J, J, J, J, J, J, J, J, J, J, J, J, J, J, J, J, J, J, J, J, J, J, J, J, J, J, J, J, J, J, J, J, J, J, J], [.arr 0 3 [[.ro 4 (([] : List StructD).map structC), .ro 3 (pB.map enumC), .ro 4 (pC.map fnC)]], .var 127 [.ptr 1 0 0 0, .sl 2 g11 0 v11.length, .i .i64 0], .row 5 g11 (v11.map byteV)]⟩ : St)) v.1.1 v.1.2) ?_ ?_
 ·skip
  refine EV.block ?_
  refine EV.loopP (fun x : { x : Nat × (List UInt8) × Nat // x.1 ≤ pB.length ∧ tTextB_l11 (pB.drop x.1) x.2.1 = z11 ∧ (fun (j11 : Nat) (a11_0 : List UInt8) (a11_g0 : Nat) => a11_0.length + 3000000 * (bkR ((pB.drop j11).map enumC) + bkR (pC.map fnC)) ≤ 10000000000000 ∧ 0 < a11_0.length) x.1 x.2.1 x.2.2 } => (fun (j11 : Nat) (a11_0 : List UInt8) (a11_g0 : Nat) => (⟨[J, .ptr 0 0 0 0, J, .ptr 1 0 0 0, J, J, J, J, J, J, J, J, J, J, J, J, J, J, J, J, J, J, J, J, J, J, J, J, J, J, J, .ro 3 (pB.map enumC), .i .i64 (pB.length : Int), .i .i64 (j11 : Int), J, J, J, J, J, J, J, J, J, J, J, J, J, J, J, J, J, J, J, J, J, J, J, J, J, J, J, J, J, J, J, J, J, J], [.arr 0 3 [[.ro 4 (([] : List StructD).map structC), .ro 3 (pB.map enumC), .ro 4 (pC.map fnC)]], .var 127 [.ptr 1 0 0 0, .sl 2 a11_g0 0 a11_0.length, .i .i64 0], .row 5 a11_g0 (a11_0.map byteV)]⟩ : St)) x.1.1 x.1.2.1 x.1.2.2) (fun x => pB.length - x.1.1) (pB.length) ?_ ?_
  ·skip
   refine SR ?_
   simp -implicitDefEqProofs [hp0, c00, hx00]
   refine EV.seq ?_
   refine EV.condT ?_
   simp -implicitDefEqProofs [hp0, c00, hx00]
   refine EV.skip ?_
   simp only [KN1, KN2, KN3]
   refine EV.seq (EV.block (SR ?_))
   simp -implicitDefEqProofs [hp0, c00, hx00]
   have := joinT_len varT variantC 6 x0.variants fun x _ => varT_len x
   have := brT_len (joinT varT x0.variants)
   have := lineT_len 0 [([101, 110, 117, 109, 32] : List UInt8), x0.name, ([32] : List UInt8), (brT (joinT varT x0.variants))]
   try simp only [List.map_cons, List.map_nil, List.sum_cons, List.sum_nil, List.length_cons, List.length_nil] at this
   refine EV.drawG tabOK mixedOK ?_
   simp -implicitDefEqProofs [hp0, c00, hx00]
   refine callG_fun (w_jnV' x0.variants (by first | assumption | grind) (by first | assumption | omega)) ?_ ?_
   ·first | (simp; done) | (simp [hp0, c00, hx00]; done)
   simp -implicitDefEqProofs [hp0, c00, hx00]
   refine callG_fun (w_tBraced' (joinT varT x0.variants) (by omega)) ?_ ?_
   ·first | (simp; done) | (simp [hp0, c00, hx00]; done)
   simp -implicitDefEqProofs [hp0, c00, hx00]
   refine callG_own [1, 3] rfl (w_wl4n 0 ([101, 110, 117, 109, 32] : List UInt8) x0.name ([32] : List UInt8) (brT (joinT varT x0.variants)) (by first | omega | (simp; omega))) ?_ ?_ ?_ ?_ ?_ ?_
   ·simp [Nat.add_assoc, List.range_succ, hw1]
   ·simp [Nat.add_assoc, List.range_succ, hw1]
   ·simp [Nat.add_assoc, List.range_succ, hw1]
   ·simp [Nat.add_assoc, List.range_succ, hw1]
   ·simp [Nat.add_assoc, List.range_succ, hw1]
   simp -implicitDefEqProofs [hp0, c00, hx00, keys, callUpd, List.range_succ]
   refine And.intro ?_ ?_
   ·first | decide +kernel | (simp -implicitDefEqProofs; decide +kernel) | (split <;> decide +kernel)
   try simp -implicitDefEqProofs
   refine RG ?_
   simp -implicitDefEqProofs [hp0, c00, hx00]
   refine ⟨⟨(1, (lineT 0 [([101, 110, 117, 109, 32] : List UInt8), x0.name, ([32] : List UInt8), (brT (joinT varT x0.variants))]), 5), c00, (by rw [hdr0]; exact e11), by ((try dsimp only); refine ⟨?_, ?_⟩ <;> (try rw [hdr0]) <;> (try simp only [List.drop_zero, List.length_append, List.length_cons, List.length_nil]) <;> omega)⟩, by (dsimp only; omega), ?_⟩
   refine Sub.trans (Sub.cutS (t' := [J, .ptr 0 0 0 0, J, .ptr 1 0 0 0, J, J, J, J, J, J, J, J, J, J, J, J, J, J, J, J, J, J, J, J, J, J, J, J, J, J, J, .ro 3 (pB.map enumC), .i .i64 (pB.length : Int), .i .i64 1, J, J, J, J, J, J, J, J, J, J, J, J, J, J, J, J, J, J, J, J, J, J, J, J, J, J, J, J, J, J, J, J, J, J]) (h' := [.arr 0 3 [[.ro 4 (([] : List StructD).map structC), .ro 3 (pB.map enumC), .ro 4 (pC.map fnC)]], .var 127 [.ptr 1 0 0 0, .sl 2 5 0 ((lineT 0 [([101, 110, 117, 109, 32] : List UInt8), x0.name, ([32] : List UInt8), (brT (joinT varT x0.variants))]).length), .i .i64 0], .row 5 5 ((lineT 0 [([101, 110, 117, 109, 32] : List UInt8), x0.name, ([32] : List UInt8), (brT (joinT varT x0.variants))]).map byteV)]) [0, 1, 4] (by decide) (by simp) ?_ ?_) ?_
   ·simp [allP, slotSel, toIdx, hp0, c00, hx00]
   ·simp [passed, toIdx, hp0, c00, hx00]
   try dsimp only
   refine Sub.cutF 3 (by simp) ?_ ?_ <;> simp [List.range_succ, toIdx_range, passed, hp0, c00, hx00]
  rintro ⟨⟨j11, a11_0, a11_g0⟩, hi11, e11, q11⟩
  simp only at hi11 e11 ⊢
  try dsimp only at q11
  refine SR ?_
  simp -implicitDefEqProofs [hp0, c00, hx00]
  refine EV.seq ?_
  refine EV.room 31 (by rfl) (fun mj11 => ?_)
  simp at mj11
  refine EV.condT ?_
  simp -implicitDefEqProofs [hp0, c00, hx00]
  refine condT_intro (fun k1 => ?_) (fun k1 => ?_)
  ·try simp at k1
   have u1 : j11 < pB.length := by omega
   obtain ⟨x11, hx11⟩ : ∃ z, pB[j11] = z := ⟨_, rfl⟩
   have mx11 : x11 ∈ pB := by rw [← hx11]; exact List.getElem_mem _
   have hix11 := bkR_in (f := enumC) mx11
   have hbx11 := (wfR_map _ _).1 hq1 _ mx11
   have hdx11 := drop_bk (e := enumC) hx11
   simp only [enumC_eq, wfL, wfV, bkL, bkV] at hbx11 hix11 hdx11
   have hfx11 : wfR (x11.variants.map variantC) := hbx11.2.1
   rw [List.drop_eq_getElem_cons u1, hx11, tTextB_l11] at e11
   refine EV.skip ?_
   simp only [KN1, KN2, KN3]
   refine EV.seq (EV.block (SR ?_))
   simp -implicitDefEqProofs [hp0, c00, hx00, k1, u1, hx11]
   have := joinT_len varT variantC 6 x11.variants fun x _ => varT_len x
   have := brT_len (joinT varT x11.variants)
   have := lineT_len 0 [([101, 110, 117, 109, 32] : List UInt8), x11.name, ([32] : List UInt8), (brT (joinT varT x11.variants))]
   try simp only [List.map_cons, List.map_nil, List.sum_cons, List.sum_nil, List.length_cons, List.length_nil] at this
   refine EV.drawG tabOK mixedOK ?_
   simp -implicitDefEqProofs [hp0, c00, hx00, k1, u1, hx11]
   refine callG_fun (w_jnV' x11.variants (by first | assumption | grind) (by first | assumption | omega)) ?_ ?_
   ·first | (simp; done) | (simp [hp0, c00, hx00, k1, u1, hx11]; done)
   simp -implicitDefEqProofs [hp0, c00, hx00, k1, u1, hx11]
   refine callG_fun (w_tBraced' (joinT varT x11.variants) (by omega)) ?_ ?_
   ·first | (simp; done) | (simp [hp0, c00, hx00, k1, u1, hx11]; done)
   simp -implicitDefEqProofs [hp0, c00, hx00, k1, u1, hx11]
   refine callG_own [1, 2, 4] rfl (w_wl4r a11_g0 a11_0 0 ([101, 110, 117, 109, 32] : List UInt8) x11.name ([32] : List UInt8) (brT (joinT varT x11.variants)) (by first | omega | (simp; omega))) ?_ ?_ ?_ ?_ ?_ ?_
   ·simp [Nat.add_assoc, List.range_succ, hw1]
   ·simp [Nat.add_assoc, List.range_succ, hw1]
   ·simp [Nat.add_assoc, List.range_succ, hw1]
   ·simp [Nat.add_assoc, List.range_succ, hw1]
   ·simp [Nat.add_assoc, List.range_succ, hw1]
   simp -implicitDefEqProofs [hp0, c00, hx00, k1, u1, hx11, keys, callUpd, List.range_succ]
   refine And.intro ?_ ?_
   ·first | decide +kernel | (simp -implicitDefEqProofs; decide +kernel) | (split <;> decide +kernel)
   try simp -implicitDefEqProofs
   refine RG ?_
   simp -implicitDefEqProofs [hp0, c00, hx00, k1, u1, hx11]
   have w11 : IntKind.i64.wrap ((j11 : Int) + 1) = (j11 : Int) + 1 := wrap_in _ (by omega) (by omega)
   refine ⟨⟨(j11 + 1, (a11_0 ++ (lineT 0 [([101, 110, 117, 109, 32] : List UInt8), x11.name, ([32] : List UInt8), (brT (joinT varT x11.variants))])), (a11_g0 + 6)), by omega, e11, by ((try dsimp only); refine ⟨?_, ?_⟩ <;> (try rw [hdr0]) <;> (try simp only [List.drop_zero, List.length_append, List.length_cons, List.length_nil]) <;> omega)⟩, by dsimp only; omega, ?_⟩
   try dsimp only
   refine Sub.cutF 3 (by simp) ?_ ?_ <;> simp [List.range_succ, toIdx_range, passed, hp0, c00, hx00, k1, u1, hx11, w11]
  try simp at k1
  have d1 : pB.drop j11 = [] := List.drop_eq_nil_of_le (by omega)
  rw [d1, tTextB_l11] at e11
  refine EV.exit ?_
  simp -implicitDefEqProofs
  refine ⟨⟨(a11_0, a11_g0), e11.symm, by ((try dsimp only); refine ⟨?_, ?_⟩ <;> (try rw [hdr0]) <;> (try simp only [List.drop_zero, List.length_append, List.length_cons, List.length_nil]) <;> omega)⟩, ?_⟩
  try dsimp only
  refine Sub.cutF 3 (by simp) ?_ ?_ <;> simp [List.range_succ, toIdx_range, passed, hp0, c00, hx00]
 ·skip
  rintro ⟨⟨v11, g11⟩, e11, p11⟩
  simp only [KN1, KN2, KN3, KN4]
  try dsimp only at p11
  replace e := bnd_on e e11
  try dsimp only at e
  refine EV.seq (SR ?_)
  simp -implicitDefEqProofs [hp0, c00, hx00]
  obtain ⟨z16, e16, e⟩ := bnd_split e
  refine EV.nrm (fun v : { v : ((List UInt8)) × (Nat) // z16 = v.1 ∧ (fun (v16 : (List UInt8)) => v16.length + 3000000 * (0) ≤ 10000000000000 ∧ 0 < v16.length) v.1 } => (fun (v16 : (List UInt8)) (g16 : Nat) => (⟨[J, J, J, .ptr 1 0 0 0, J, J, J, J, J, J, J, J, J, J, J, J, J, J, J, J, J, J, J, J, J, J, J, J, J, J, J, J, J, J, J, J, J, J, J, J, J, J, J, J, J, J, J, J, J, J, J, J, J, J, J, J, J, J, J, J, J, J, J, J, J, J, J, J], [.arr 0 3 [[.ro 4 (([] : List StructD).map structC), .ro 3 (pB.map enumC), .ro 4 (pC.map fnC)]], .var 127 [.ptr 1 0 0 0, .sl 2 g16 0 v16.length, .i .i64 0], .row 5 g16 (v16.map byteV)]⟩ : St)) v.1.1 v.1.2) ?_ ?_
  ·skip
   refine EV.block ?_
   refine EV.loopB (fun x : { x : Nat × (List UInt8) × Nat // x.1 ≤ pC.length ∧ tTextB_l16 (pC.drop x.1) x.2.1 = z16 ∧ (fun (j16 : Nat) (a16_0 : List UInt8) (a16_g0 : Nat) => a16_0.length + 3000000 * (bkR ((pC.drop j16).map fnC)) ≤ 10000000000000 ∧ 0 < a16_0.length) x.1 x.2.1 x.2.2 } => (fun (j16 : Nat) (a16_0 : List UInt8) (a16_g0 : Nat) => (⟨[J, J, J, .ptr 1 0 0 0, J, J, J, J, J, J, J, J, J, J, J, J, J, J, J, J, J, J, J, J, J, J, J, J, J, J, J, J, J, J, J, J, J, J, J, J, J, J, J, J, J, J, J, .ro 4 (pC.map fnC), .i .i64 (pC.length : Int), .i .i64 (j16 : Int), J, J, J, J, J, J, J, J, J, J, J, J, J, J, J, J, J, J], [.arr 0 3 [[.ro 4 (([] : List StructD).map structC), .ro 3 (pB.map enumC), .ro 4 (pC.map fnC)]], .var 127 [.ptr 1 0 0 0, .sl 2 a16_g0 0 a16_0.length, .i .i64 0], .row 5 a16_g0 (a16_0.map byteV)]⟩ : St)) x.1.1 x.1.2.1 x.1.2.2) (fun x => pC.length - x.1.1) ⟨(0, v11, g11), Nat.zero_le _, e16, by ((try dsimp only); refine ⟨?_, ?_⟩ <;> (try rw [hdr0]) <;> (try simp only [List.drop_zero, List.length_append, List.length_cons, List.length_nil]) <;> omega)⟩ ?_ ?_
   ·skip
    try dsimp only
    try dsimp only
    refine Sub.cutF 3 (by simp) ?_ ?_ <;> simp [List.range_succ, toIdx_range, passed, hp0, c00, hx00]
   rintro ⟨⟨j16, a16_0, a16_g0⟩, hi16, e16, q16⟩
   simp only at hi16 e16 ⊢
   try dsimp only at q16
   refine SR ?_
   simp -implicitDefEqProofs [hp0, c00, hx00]
   refine EV.seq ?_
   refine EV.room 47 (by rfl) (fun mj16 => ?_)
   simp at mj16
   refine EV.condT ?_
   simp -implicitDefEqProofs [hp0, c00, hx00]
   refine condT_intro (fun k2 => ?_) (fun k2 => ?_)
   ·try simp at k2
    have u2 : j16 < pC.length := by omega
    obtain ⟨x16, hx16⟩ : ∃ z, pC[j16] = z := ⟨_, rfl⟩
    have mx16 : x16 ∈ pC := by rw [← hx16]; exact List.getElem_mem _
    have hix16 := bkR_in (f := fnC) mx16
    have hbx16 := (wfR_map _ _).1 hq2 _ mx16
    have hdx16 := drop_bk (e := fnC) hx16
    simp only [fnC_eq, wfL, wfV, bkL, bkV] at hbx16 hix16 hdx16
    have hfx16 : wfR (x16.params.map fieldC) := hbx16.2.1
    have hgx16 : wfR (x16.body.map stmtC) := hbx16.2.2.1
    rw [List.drop_eq_getElem_cons u2, hx16, tTextB_l16] at e16
    refine EV.skip ?_
    simp only [KN1, KN2, KN3]
    refine EV.seq (EV.block (SR ?_))
    simp -implicitDefEqProofs [hp0, c00, hx00, k2, u2, hx16]
    refine EV.seq ?_
    have := joinT_len fldT fieldC 6 x16.params fun x _ => fldT_len x
    have := lineT_len 0 [([99, 111, 32] : List UInt8), x16.name, ([40] : List UInt8), (joinT fldT x16.params), ([41, 32, 123] : List UInt8)]
    try simp only [List.map_cons, List.map_nil, List.sum_cons, List.sum_nil, List.length_cons, List.length_nil] at this
    refine EV.drawG tabOK mixedOK ?_
    simp -implicitDefEqProofs [hp0, c00, hx00, k2, u2, hx16]
    refine callG_fun (w_jnF' x16.params (by first | assumption | grind) (by first | assumption | omega)) ?_ ?_
    ·first | (simp; done) | (simp [hp0, c00, hx00, k2, u2, hx16]; done)
    simp -implicitDefEqProofs [hp0, c00, hx00, k2, u2, hx16]
    refine callG_own [1, 2, 4] rfl (w_wl5r a16_g0 a16_0 0 ([99, 111, 32] : List UInt8) x16.name ([40] : List UInt8) (joinT fldT x16.params) ([41, 32, 123] : List UInt8) (by first | omega | (simp; omega))) ?_ ?_ ?_ ?_ ?_ ?_
    ·simp [Nat.add_assoc, List.range_succ, hw1]
    ·simp [Nat.add_assoc, List.range_succ, hw1]
    ·simp [Nat.add_assoc, List.range_succ, hw1]
    ·simp [Nat.add_assoc, List.range_succ, hw1]
    ·simp [Nat.add_assoc, List.range_succ, hw1]
    simp -implicitDefEqProofs [hp0, c00, hx00, k2, u2, hx16, keys, callUpd, List.range_succ]
    refine And.intro ?_ ?_
    ·first | decide +kernel | (simp -implicitDefEqProofs; decide +kernel) | (split <;> decide +kernel)
    try simp -implicitDefEqProofs
    refine EV.seq ?_
    have := blT_len x16.body 0 (by omega)
    refine RG ?_
    simp -implicitDefEqProofs [hp0, c00, hx00, k2, u2, hx16]
    refine callG_own [1, 2] rfl (w_blk x16.body (a16_g0 + 7) 0 (a16_0 ++ (lineT 0 [([99, 111, 32] : List UInt8), x16.name, ([40] : List UInt8), (joinT fldT x16.params), ([41, 32, 123] : List UInt8)])) (by omega) (by assumption) (by omega) (by (try simp only [List.length_append, List.length_cons, List.length_nil]); omega)) ?_ ?_ ?_ ?_ ?_ ?_
    ·simp [Nat.add_assoc, List.range_succ, hw1]
    ·simp [Nat.add_assoc, List.range_succ, hw1]
    ·simp [Nat.add_assoc, List.range_succ, hw1]
    ·simp [Nat.add_assoc, List.range_succ, hw1]
    ·simp [Nat.add_assoc, List.range_succ, hw1]
    simp -implicitDefEqProofs [hp0, c00, hx00, k2, u2, hx16, keys, callUpd, List.range_succ]
    have := lineT_len 0 [([125] : List UInt8)]
    try simp only [List.map_cons, List.map_nil, List.sum_cons, List.sum_nil, List.length_cons, List.length_nil] at this
    refine RG ?_
    simp -implicitDefEqProofs [hp0, c00, hx00, k2, u2, hx16]
    refine callG_own [1, 2, 5] rfl (w_wl1r ((a16_g0 + 7) + blE x16.body) ((a16_0 ++ (lineT 0 [([99, 111, 32] : List UInt8), x16.name, ([40] : List UInt8), (joinT fldT x16.params), ([41, 32, 123] : List UInt8)])) ++ blT x16.body 0) 0 ([125] : List UInt8) (by first | omega | (simp; omega))) ?_ ?_ ?_ ?_ ?_ ?_
    ·simp [Nat.add_assoc, List.range_succ, hw1]
    ·simp [Nat.add_assoc, List.range_succ, hw1]
    ·simp [Nat.add_assoc, List.range_succ, hw1]
    ·simp [Nat.add_assoc, List.range_succ, hw1]
    ·simp [Nat.add_assoc, List.range_succ, hw1]
    simp -implicitDefEqProofs [hp0, c00, hx00, k2, u2, hx16, keys, callUpd, List.range_succ]
    refine RG ?_
    simp -implicitDefEqProofs [hp0, c00, hx00, k2, u2, hx16]
    have w16 : IntKind.i64.wrap ((j16 : Int) + 1) = (j16 : Int) + 1 := wrap_in _ (by omega) (by omega)
    refine ⟨⟨(j16 + 1, (((a16_0 ++ (lineT 0 [([99, 111, 32] : List UInt8), x16.name, ([40] : List UInt8), (joinT fldT x16.params), ([41, 32, 123] : List UInt8)])) ++ blT x16.body 0) ++ (lineT 0 [([125] : List UInt8)])), (((a16_g0 + 7) + blE x16.body) + 3)), by omega, e16, by ((try dsimp only); refine ⟨?_, ?_⟩ <;> (try rw [hdr0]) <;> (try simp only [List.drop_zero, List.length_append, List.length_cons, List.length_nil]) <;> omega)⟩, by dsimp only; omega, ?_⟩
    try dsimp only
    refine Sub.cutF 3 (by simp) ?_ ?_ <;> simp [List.range_succ, toIdx_range, passed, hp0, c00, hx00, k2, u2, hx16, w16]
   try simp at k2
   have d2 : pC.drop j16 = [] := List.drop_eq_nil_of_le (by omega)
   rw [d2, tTextB_l16] at e16
   refine EV.exit ?_
   simp -implicitDefEqProofs
   refine ⟨⟨(a16_0, a16_g0), e16.symm, by ((try dsimp only); refine ⟨?_, ?_⟩ <;> (try rw [hdr0]) <;> (try simp only [List.drop_zero, List.length_append, List.length_cons, List.length_nil]) <;> omega)⟩, ?_⟩
   try dsimp only
   refine Sub.cutF 3 (by simp) ?_ ?_ <;> simp [List.range_succ, toIdx_range, passed, hp0, c00, hx00]
  ·skip
   rintro ⟨⟨v16, g16⟩, e16, p16⟩
   simp only [KN1, KN2, KN3, KN4]
   try dsimp only at p16
   replace e := bnd_on e e16
   try dsimp only at e
   refine SR ?_
   simp -implicitDefEqProofs [hp0, c00, hx00]
   refine callG_own [1, 2] rfl (walk35rW g16 v16 (List.ne_nil_of_length_pos (by first | omega | (simp; omega))) (.ptr 0 0 0 0) (.i .i64 0)) ?_ ?_ ?_ ?_ ?_ ?_
   ·simp [Nat.add_assoc]
   ·simp [Nat.add_assoc]
   ·simp [Nat.add_assoc]
   ·simp [Nat.add_assoc]
   ·simp [Nat.add_assoc]
   simp -implicitDefEqProofs [hp0, c00, hx00, keys, callUpd, List.range_succ]
   refine EV.ret ?_
   simp only [KR1, KR2, KR3, KR4]
   subst e
   refine Fin.pure0 ?_
   first | (simp; done) | (simp <;> grind)
def tTextC_l16  : List FnD → (List UInt8) → (List UInt8)
 | [], a16_0 => a16_0
 | x16 :: xs16, a16_0 => tTextC_l16 xs16 (((a16_0 ++ (lineT 0 [([99, 111, 32] : List UInt8), x16.name, ([40] : List UInt8), (joinT fldT x16.params), ([41, 32, 123] : List UInt8)])) ++ blT x16.body 0) ++ (lineT 0 [([125] : List UInt8)]))
def tTextC (x0 : FnD) (r0 : List FnD) (pC : List FnD) : (List UInt8) :=
 (bnd (tTextC_l16 r0 (((lineT 0 [([99, 111, 32] : List UInt8), x0.name, ([40] : List UInt8), (joinT fldT x0.params), ([41, 32, 123] : List UInt8)]) ++ blT x0.body 0) ++ (lineT 0 [([125] : List UInt8)]))) fun (v16 : (List UInt8)) => v16)
theorem w_tTextC (x0 : FnD) (r0 : List FnD) (pC : List FnD) (hX : pC = x0 :: r0) (hq2 : wfR (pC.map fnC)) (hz : bkR (pC.map fnC) ≤ 1050000) : QC prog 16 [.agg [.ro 4 (([] : List StructD).map structC), .ro 3 (([] : List EnumD).map enumC), .ro 4 (pC.map fnC)]] [] (.s (tTextC x0 r0 pC)) [] := by
 refine QC.of_body tabOK func16 rfl (by kernel_rfl) ?_
 simp only [f16]
 generalize e : tTextC x0 r0 pC = R
 unfold tTextC at e
 have hw1 : IntKind.i64.wrap ((0 : Int) + 1) = 1 := by decide
 have mx0 : x0 ∈ pC := by rw [hX]; exact List.mem_cons_self
 have c00 : 0 < pC.length := by rw [hX]; simp
 have hp0 : (0 : Int) < (pC.length : Int) := by omega
 have hx00 : pC[0] = x0 := by simp [hX]
 have hdr0 : pC.drop 1 = r0 := by rw [hX]; rfl
 have hix0 := bkR_in (f := fnC) mx0
 have hbx0 := (wfR_map _ _).1 hq2 _ mx0
 have hdx0 : bkR (pC.map fnC) = bkL (fnC x0) + bkR (r0.map fnC) := by rw [hX]; rfl
 simp only [fnC_eq, wfL, wfV, bkL, bkV] at hbx0 hix0 hdx0
 have hfx0 : wfR (x0.params.map fieldC) := hbx0.2.1
 have hgx0 : wfR (x0.body.map stmtC) := hbx0.2.2.1
 refine SR ?_
 simp -implicitDefEqProofs [hp0, c00, hx00]
 refine SR ?_
 simp -implicitDefEqProofs [hp0, c00, hx00]
 refine EV.seq (SR ?_)
 simp -implicitDefEqProofs [hp0, c00, hx00]
 refine EV.block ?_
 refine EV.rounds 1 ?_
 refine ER.succ ?_
 refine SR ?_
 simp -implicitDefEqProofs [hp0, c00, hx00]
 refine EV.seq ?_
 refine EV.condT ?_
 simp -implicitDefEqProofs [hp0, c00, hx00]
 refine EV.exit ?_
 simp -implicitDefEqProofs
 refine EV.seq (SR ?_)
 simp -implicitDefEqProofs [hp0, c00, hx00]
 refine EV.block ?_
 refine EV.rounds 1 ?_
 refine ER.succ ?_
 refine SR ?_
 simp -implicitDefEqProofs [hp0, c00, hx00]
 refine EV.seq ?_
 refine EV.condT ?_
 simp -implicitDefEqProofs [hp0, c00, hx00]
 refine EV.exit ?_
 simp -implicitDefEqProofs
 refine EV.seq (SR ?_)
 simp -implicitDefEqProofs [hp0, c00, hx00]
 obtain ⟨z16, e16, e⟩ := bnd_split e
 refine EV.nrm (fun v : { v : ((List UInt8)) × (Nat) // z16 = v.1 ∧ (fun (v16 : (List UInt8)) => v16.length + 3000000 * (0) ≤ 10000000000000 ∧ 0 < v16.length) v.1 } => (fun (v16 : (List UInt8)) (g16 : Nat) => (⟨[J, J, J, .ptr 0 0 0 0, J, J, J, J, J, J, J, J, J, J, J, J, J, J, J, J, J, J, J, J, J, J, J, J, J, J, J, J, J, J, J, J, J, J, J, J, J, J, J, J, J, J, J, J, J, J, J, J, J, J, J, J, J, J, J, J, J, J, J, J, J, J, J, J], [.var 127 [.ptr 0 0 0 0, .sl 1 g16 0 v16.length, .i .i64 0], .row 5 g16 (v16.map byteV)]⟩ : St)) v.1.1 v.1.2) ?_ ?_
 ·skip
  refine EV.block ?_
  refine EV.loopP (fun x : { x : Nat × (List UInt8) × Nat // x.1 ≤ pC.length ∧ tTextC_l16 (pC.drop x.1) x.2.1 = z16 ∧ (fun (j16 : Nat) (a16_0 : List UInt8) (a16_g0 : Nat) => a16_0.length + 3000000 * (bkR ((pC.drop j16).map fnC)) ≤ 10000000000000 ∧ 0 < a16_0.length) x.1 x.2.1 x.2.2 } => (fun (j16 : Nat) (a16_0 : List UInt8) (a16_g0 : Nat) => (⟨[J, J, J, .ptr 0 0 0 0, J, J, J, J, J, J, J, J, J, J, J, J, J, J, J, J, J, J, J, J, J, J, J, J, J, J, J, J, J, J, J, J, J, J, J, J, J, J, J, J, J, J, J, .ro 4 (pC.map fnC), .i .i64 (pC.length : Int), .i .i64 (j16 : Int), J, J, J, J, J, J, J, J, J, J, J, J, J, J, J, J, J, J], [.var 127 [.ptr 0 0 0 0, .sl 1 a16_g0 0 a16_0.length, .i .i64 0], .row 5 a16_g0 (a16_0.map byteV)]⟩ : St)) x.1.1 x.1.2.1 x.1.2.2) (fun x => pC.length - x.1.1) (pC.length) ?_ ?_
  ·skip
   refine SR ?_
   simp -implicitDefEqProofs [hp0, c00, hx00]
   refine EV.seq ?_
   refine EV.condT ?_
   simp -implicitDefEqProofs [hp0, c00, hx00]
   refine EV.skip ?_
   simp only [KN1, KN2, KN3]
   refine EV.seq (EV.block (SR ?_))
   simp -implicitDefEqProofs [hp0, c00, hx00]
   refine EV.seq ?_
   have := joinT_len fldT fieldC 6 x0.params fun x _ => fldT_len x
   have := lineT_len 0 [([99, 111, 32] : List UInt8), x0.name, ([40] : List UInt8), (joinT fldT x0.params), ([41, 32, 123] : List UInt8)]
   try simp only [List.map_cons, List.map_nil, List.sum_cons, List.sum_nil, List.length_cons, List.length_nil] at this
   refine EV.drawG tabOK mixedOK ?_
   simp -implicitDefEqProofs [hp0, c00, hx00]
   refine callG_fun (w_jnF' x0.params (by first | assumption | grind) (by first | assumption | omega)) ?_ ?_
   ·first | (simp; done) | (simp [hp0, c00, hx00]; done)
   simp -implicitDefEqProofs [hp0, c00, hx00]
   refine callG_own [1, 3] rfl (w_wl5n 0 ([99, 111, 32] : List UInt8) x0.name ([40] : List UInt8) (joinT fldT x0.params) ([41, 32, 123] : List UInt8) (by first | omega | (simp; omega))) ?_ ?_ ?_ ?_ ?_ ?_
   ·simp [Nat.add_assoc, List.range_succ, hw1]
   ·simp [Nat.add_assoc, List.range_succ, hw1]
   ·simp [Nat.add_assoc, List.range_succ, hw1]
   ·simp [Nat.add_assoc, List.range_succ, hw1]
   ·simp [Nat.add_assoc, List.range_succ, hw1]
   simp -implicitDefEqProofs [hp0, c00, hx00, keys, callUpd, List.range_succ]
   refine And.intro ?_ ?_
   ·first | decide +kernel | (simp -implicitDefEqProofs; decide +kernel) | (split <;> decide +kernel)
   try simp -implicitDefEqProofs
   refine EV.seq ?_
   have := blT_len x0.body 0 (by omega)
   refine RG ?_
   simp -implicitDefEqProofs [hp0, c00, hx00]
   refine callG_own [1, 4] rfl (w_blk x0.body 6 0 (lineT 0 [([99, 111, 32] : List UInt8), x0.name, ([40] : List UInt8), (joinT fldT x0.params), ([41, 32, 123] : List UInt8)]) (by omega) (by assumption) (by omega) (by (try simp only [List.length_append, List.length_cons, List.length_nil]); omega)) ?_ ?_ ?_ ?_ ?_ ?_
   ·simp [Nat.add_assoc, List.range_succ, hw1]
   ·simp [Nat.add_assoc, List.range_succ, hw1]
   ·simp [Nat.add_assoc, List.range_succ, hw1]
   ·simp [Nat.add_assoc, List.range_succ, hw1]
   ·simp [Nat.add_assoc, List.range_succ, hw1]
   simp -implicitDefEqProofs [hp0, c00, hx00, keys, callUpd, List.range_succ]
   have := lineT_len 0 [([125] : List UInt8)]
   try simp only [List.map_cons, List.map_nil, List.sum_cons, List.sum_nil, List.length_cons, List.length_nil] at this
   refine RG ?_
   simp -implicitDefEqProofs [hp0, c00, hx00]
   refine callG_own [1, 4, 5] rfl (w_wl1r (6 + blE x0.body) ((lineT 0 [([99, 111, 32] : List UInt8), x0.name, ([40] : List UInt8), (joinT fldT x0.params), ([41, 32, 123] : List UInt8)]) ++ blT x0.body 0) 0 ([125] : List UInt8) (by first | omega | (simp; omega))) ?_ ?_ ?_ ?_ ?_ ?_
   ·simp [Nat.add_assoc, List.range_succ, hw1]
   ·simp [Nat.add_assoc, List.range_succ, hw1]
   ·simp [Nat.add_assoc, List.range_succ, hw1]
   ·simp [Nat.add_assoc, List.range_succ, hw1]
   ·simp [Nat.add_assoc, List.range_succ, hw1]
   simp -implicitDefEqProofs [hp0, c00, hx00, keys, callUpd, List.range_succ]
   refine RG ?_
   simp -implicitDefEqProofs [hp0, c00, hx00]
   refine ⟨⟨(1, (((lineT 0 [([99, 111, 32] : List UInt8), x0.name, ([40] : List UInt8), (joinT fldT x0.params), ([41, 32, 123] : List UInt8)]) ++ blT x0.body 0) ++ (lineT 0 [([125] : List UInt8)])), ((6 + blE x0.body) + 3)), c00, (by rw [hdr0]; exact e16), by ((try dsimp only); refine ⟨?_, ?_⟩ <;> (try rw [hdr0]) <;> (try simp only [List.drop_zero, List.length_append, List.length_cons, List.length_nil]) <;> omega)⟩, by (dsimp only; omega), ?_⟩
   refine Sub.trans (Sub.cutS (t' := [J, J, J, .ptr 0 0 0 0, J, J, J, J, J, J, J, J, J, J, J, J, J, J, J, J, J, J, J, J, J, J, J, J, J, J, J, J, J, J, J, J, J, J, J, J, J, J, J, J, J, J, J, .ro 4 (pC.map fnC), .i .i64 (pC.length : Int), .i .i64 1, J, J, J, J, J, J, J, J, J, J, J, J, J, J, J, J, J, J]) (h' := [.var 127 [.ptr 0 0 0 0, .sl 1 ((6 + blE x0.body) + 3) 0 ((((lineT 0 [([99, 111, 32] : List UInt8), x0.name, ([40] : List UInt8), (joinT fldT x0.params), ([41, 32, 123] : List UInt8)]) ++ blT x0.body 0) ++ (lineT 0 [([125] : List UInt8)])).length), .i .i64 0], .row 5 ((6 + blE x0.body) + 3) ((((lineT 0 [([99, 111, 32] : List UInt8), x0.name, ([40] : List UInt8), (joinT fldT x0.params), ([41, 32, 123] : List UInt8)]) ++ blT x0.body 0) ++ (lineT 0 [([125] : List UInt8)])).map byteV)]) [1, 4] (by decide) (by simp) ?_ ?_) ?_
   ·simp [allP, slotSel, toIdx, hp0, c00, hx00]
   ·simp [passed, toIdx, hp0, c00, hx00]
   try dsimp only
   refine Sub.cutF 2 (by simp) ?_ ?_ <;> simp [List.range_succ, toIdx_range, passed, hp0, c00, hx00]
  rintro ⟨⟨j16, a16_0, a16_g0⟩, hi16, e16, q16⟩
  simp only at hi16 e16 ⊢
  try dsimp only at q16
  refine SR ?_
  simp -implicitDefEqProofs [hp0, c00, hx00]
  refine EV.seq ?_
  refine EV.room 47 (by rfl) (fun mj16 => ?_)
  simp at mj16
  refine EV.condT ?_
  simp -implicitDefEqProofs [hp0, c00, hx00]
  refine condT_intro (fun k1 => ?_) (fun k1 => ?_)
  ·try simp at k1
   have u1 : j16 < pC.length := by omega
   obtain ⟨x16, hx16⟩ : ∃ z, pC[j16] = z := ⟨_, rfl⟩
   have mx16 : x16 ∈ pC := by rw [← hx16]; exact List.getElem_mem _
   have hix16 := bkR_in (f := fnC) mx16
   have hbx16 := (wfR_map _ _).1 hq2 _ mx16
   have hdx16 := drop_bk (e := fnC) hx16
   simp only [fnC_eq, wfL, wfV, bkL, bkV] at hbx16 hix16 hdx16
   have hfx16 : wfR (x16.params.map fieldC) := hbx16.2.1
   have hgx16 : wfR (x16.body.map stmtC) := hbx16.2.2.1
   rw [List.drop_eq_getElem_cons u1, hx16, tTextC_l16] at e16
   refine EV.skip ?_
   simp only [KN1, KN2, KN3]
   refine EV.seq (EV.block (SR ?_))
   simp -implicitDefEqProofs [hp0, c00, hx00, k1, u1, hx16]
   refine EV.seq ?_
   have := joinT_len fldT fieldC 6 x16.params fun x _ => fldT_len x
   have := lineT_len 0 [([99, 111, 32] : List UInt8), x16.name, ([40] : List UInt8), (joinT fldT x16.params), ([41, 32, 123] : List UInt8)]
   try simp only [List.map_cons, List.map_nil, List.sum_cons, List.sum_nil, List.length_cons, List.length_nil] at this
   refine EV.drawG tabOK mixedOK ?_
   simp -implicitDefEqProofs [hp0, c00, hx00, k1, u1, hx16]
   refine callG_fun (w_jnF' x16.params (by first | assumption | grind) (by first | assumption | omega)) ?_ ?_
   ·first | (simp; done) | (simp [hp0, c00, hx00, k1, u1, hx16]; done)
   simp -implicitDefEqProofs [hp0, c00, hx00, k1, u1, hx16]
   refine callG_own [0, 1, 3] rfl (w_wl5r a16_g0 a16_0 0 ([99, 111, 32] : List UInt8) x16.name ([40] : List UInt8) (joinT fldT x16.params) ([41, 32, 123] : List UInt8) (by first | omega | (simp; omega))) ?_ ?_ ?_ ?_ ?_ ?_
   ·simp [Nat.add_assoc, List.range_succ, hw1]
   ·simp [Nat.add_assoc, List.range_succ, hw1]
   ·simp [Nat.add_assoc, List.range_succ, hw1]
   ·simp [Nat.add_assoc, List.range_succ, hw1]
   ·simp [Nat.add_assoc, List.range_succ, hw1]
   simp -implicitDefEqProofs [hp0, c00, hx00, k1, u1, hx16, keys, callUpd, List.range_succ]
   refine And.intro ?_ ?_
   ·first | decide +kernel | (simp -implicitDefEqProofs; decide +kernel) | (split <;> decide +kernel)
   try simp -implicitDefEqProofs
   refine EV.seq ?_
   have := blT_len x16.body 0 (by omega)
   refine RG ?_
   simp -implicitDefEqProofs [hp0, c00, hx00, k1, u1, hx16]
   refine callG_own [0, 1] rfl (w_blk x16.body (a16_g0 + 7) 0 (a16_0 ++ (lineT 0 [([99, 111, 32] : List UInt8), x16.name, ([40] : List UInt8), (joinT fldT x16.params), ([41, 32, 123] : List UInt8)])) (by omega) (by assumption) (by omega) (by (try simp only [List.length_append, List.length_cons, List.length_nil]); omega)) ?_ ?_ ?_ ?_ ?_ ?_
   ·simp [Nat.add_assoc, List.range_succ, hw1]
   ·simp [Nat.add_assoc, List.range_succ, hw1]
   ·simp [Nat.add_assoc, List.range_succ, hw1]
   ·simp [Nat.add_assoc, List.range_succ, hw1]
   ·simp [Nat.add_assoc, List.range_succ, hw1]
   simp -implicitDefEqProofs [hp0, c00, hx00, k1, u1, hx16, keys, callUpd, List.range_succ]
   have := lineT_len 0 [([125] : List UInt8)]
   try simp only [List.map_cons, List.map_nil, List.sum_cons, List.sum_nil, List.length_cons, List.length_nil] at this
   refine RG ?_
   simp -implicitDefEqProofs [hp0, c00, hx00, k1, u1, hx16]
   refine callG_own [0, 1, 4] rfl (w_wl1r ((a16_g0 + 7) + blE x16.body) ((a16_0 ++ (lineT 0 [([99, 111, 32] : List UInt8), x16.name, ([40] : List UInt8), (joinT fldT x16.params), ([41, 32, 123] : List UInt8)])) ++ blT x16.body 0) 0 ([125] : List UInt8) (by first | omega | (simp; omega))) ?_ ?_ ?_ ?_ ?_ ?_
   ·simp [Nat.add_assoc, List.range_succ, hw1]
   ·simp [Nat.add_assoc, List.range_succ, hw1]
   ·simp [Nat.add_assoc, List.range_succ, hw1]
   ·simp [Nat.add_assoc, List.range_succ, hw1]
   ·simp [Nat.add_assoc, List.range_succ, hw1]
   simp -implicitDefEqProofs [hp0, c00, hx00, k1, u1, hx16, keys, callUpd, List.range_succ]
   refine RG ?_
   simp -implicitDefEqProofs [hp0, c00, hx00, k1, u1, hx16]
   have w16 : IntKind.i64.wrap ((j16 : Int) + 1) = (j16 : Int) + 1 := wrap_in _ (by omega) (by omega)
   refine ⟨⟨(j16 + 1, (((a16_0 ++ (lineT 0 [([99, 111, 32] : List UInt8), x16.name, ([40] : List UInt8), (joinT fldT x16.params), ([41, 32, 123] : List UInt8)])) ++ blT x16.body 0) ++ (lineT 0 [([125] : List UInt8)])), (((a16_g0 + 7) + blE x16.body) + 3)), by omega, e16, by ((try dsimp only); refine ⟨?_, ?_⟩ <;> (try rw [hdr0]) <;> (try simp only [List.drop_zero, List.length_append, List.length_cons, List.length_nil]) <;> omega)⟩, by dsimp only; omega, ?_⟩
   try dsimp only
   refine Sub.cutF 2 (by simp) ?_ ?_ <;> simp [List.range_succ, toIdx_range, passed, hp0, c00, hx00, k1, u1, hx16, w16]
  try simp at k1
  have d1 : pC.drop j16 = [] := List.drop_eq_nil_of_le (by omega)
  rw [d1, tTextC_l16] at e16
  refine EV.exit ?_
  simp -implicitDefEqProofs
  refine ⟨⟨(a16_0, a16_g0), e16.symm, by ((try dsimp only); refine ⟨?_, ?_⟩ <;> (try rw [hdr0]) <;> (try simp only [List.drop_zero, List.length_append, List.length_cons, List.length_nil]) <;> omega)⟩, ?_⟩
  try dsimp only
  refine Sub.cutF 2 (by simp) ?_ ?_ <;> simp [List.range_succ, toIdx_range, passed, hp0, c00, hx00]
 ·skip
  rintro ⟨⟨v16, g16⟩, e16, p16⟩
  simp only [KN1, KN2, KN3, KN4]
  try dsimp only at p16
  replace e := bnd_on e e16
  try dsimp only at e
  refine SR ?_
  simp -implicitDefEqProofs [hp0, c00, hx00]
  refine callG_own [0, 1] rfl (walk35rW g16 v16 (List.ne_nil_of_length_pos (by first | omega | (simp; omega))) (.ptr 0 0 0 0) (.i .i64 0)) ?_ ?_ ?_ ?_ ?_ ?_
  ·simp [Nat.add_assoc]
  ·simp [Nat.add_assoc]
  ·simp [Nat.add_assoc]
  ·simp [Nat.add_assoc]
  ·simp [Nat.add_assoc]
  simp -implicitDefEqProofs [hp0, c00, hx00, keys, callUpd, List.range_succ]
  refine EV.ret ?_
  simp only [KR1, KR2, KR3, KR4]
  subst e
  refine Fin.pure0 ?_
  first | (simp; done) | (simp <;> grind)

def tTextD  : (List UInt8) :=
 ([] : List UInt8)
theorem w_tTextD    : QC prog 16 [.agg [.ro 4 (([] : List StructD).map structC), .ro 3 (([] : List EnumD).map enumC), .ro 4 (([] : List FnD).map fnC)]] [] (.s (tTextD )) [] := by
 refine QC.of_body tabOK func16 rfl (by kernel_rfl) ?_
 simp only [f16]
 generalize e : tTextD  = R
 unfold tTextD at e
 have hw1 : IntKind.i64.wrap ((0 : Int) + 1) = 1 := by decide
 refine SR ?_
 simp -implicitDefEqProofs
 refine SR ?_
 simp -implicitDefEqProofs
 refine EV.seq (SR ?_)
 simp -implicitDefEqProofs
 refine EV.block ?_
 refine EV.rounds 1 ?_
 refine ER.succ ?_
 refine SR ?_
 simp -implicitDefEqProofs
 refine EV.seq ?_
 refine EV.condT ?_
 simp -implicitDefEqProofs
 refine EV.exit ?_
 simp -implicitDefEqProofs
 refine EV.seq (SR ?_)
 simp -implicitDefEqProofs
 refine EV.block ?_
 refine EV.rounds 1 ?_
 refine ER.succ ?_
 refine SR ?_
 simp -implicitDefEqProofs
 refine EV.seq ?_
 refine EV.condT ?_
 simp -implicitDefEqProofs
 refine EV.exit ?_
 simp -implicitDefEqProofs
 refine EV.seq (SR ?_)
 simp -implicitDefEqProofs
 refine EV.block ?_
 refine EV.rounds 1 ?_
 refine ER.succ ?_
 refine SR ?_
 simp -implicitDefEqProofs
 refine EV.seq ?_
 refine EV.condT ?_
 simp -implicitDefEqProofs
 refine EV.exit ?_
 simp -implicitDefEqProofs
 refine SR ?_
 simp -implicitDefEqProofs
 refine callG_own [1] rfl (walk35nW (.c (.pointer none)) (.i .i64 0)) ?_ ?_ ?_ ?_ ?_ ?_
 ·simp
 ·simp
 ·simp
 ·simp
 ·simp
 simp -implicitDefEqProofs [keys, callUpd, List.range_succ]
 refine EV.ret ?_
 simp only [KR1, KR2, KR3, KR4]
 subst e
 refine Fin.pure0 ?_
 first | (simp; done) | (simp <;> grind)
end
end Go.Proofs.Tryz
end
section
namespace Go.Proofs.Tryz
open Go Go.AM
set_option linter.unusedVariables false
noncomputable section

def stxT (x : StructD) : List UInt8 := lineT 0 [if x.drop_ then [100, 114, 111, 112, 32] else [], [115, 116, 114, 117, 99, 116, 32], x.name, [32], brT (joinT fldT x.fields)]
def enmT (x : EnumD) : List UInt8 := lineT 0 [[101, 110, 117, 109, 32], x.name, [32], brT (joinT varT x.variants)]
def fnT (x : FnD) : List UInt8 := lineT 0 [[99, 111, 32], x.name, [40], joinT fldT x.params, [41, 32, 123]] ++ blT x.body 0 ++ lineT 0 [[125]]
def textS (s : SourceD) : List UInt8 := (s.structs.map stxT).flatten ++ (s.enums.map enmT).flatten ++ (s.fns.map fnT).flatten

theorem lA16 : ∀ (l : List FnD) (a : List UInt8), tTextA_l16 l a = a ++ (l.map fnT).flatten
  | [], a => by simp [tTextA_l16]
  | x :: l, a => by simp [tTextA_l16, lA16 l, fnT]
theorem lB16 : ∀ (l : List FnD) (a : List UInt8), tTextB_l16 l a = a ++ (l.map fnT).flatten
  | [], a => by simp [tTextB_l16]
  | x :: l, a => by simp [tTextB_l16, lB16 l, fnT]
theorem lC16 : ∀ (l : List FnD) (a : List UInt8), tTextC_l16 l a = a ++ (l.map fnT).flatten
  | [], a => by simp [tTextC_l16]
  | x :: l, a => by simp [tTextC_l16, lC16 l, fnT]
theorem lA11 : ∀ (l : List EnumD) (a : List UInt8), tTextA_l11 l a = a ++ (l.map enmT).flatten
  | [], a => by simp [tTextA_l11]
  | x :: l, a => by simp [tTextA_l11, lA11 l, enmT]
theorem lB11 : ∀ (l : List EnumD) (a : List UInt8), tTextB_l11 l a = a ++ (l.map enmT).flatten
  | [], a => by simp [tTextB_l11]
  | x :: l, a => by simp [tTextB_l11, lB11 l, enmT]
theorem lA3 : ∀ (l : List StructD) (a : List UInt8), tTextA_l3 l a = a ++ (l.map stxT).flatten
  | [], a => by simp [tTextA_l3]
  | x :: l, a => by
    simp only [tTextA_l3]
    cases h : x.drop_ <;> simp [lA3 l, stxT, h]

theorem w_tText (p : SourceD) (hw : wfL (sourceC p)) (hz : bkL (sourceC p) ≤ 1050000) : QC prog 16 [.agg [.ro 4 (p.structs.map structC), .ro 3 (p.enums.map enumC), .ro 4 (p.fns.map fnC)]] [] (.s (textS p)) [] := by
  obtain ⟨ss, es, fs⟩ := p
  simp only [sourceC_eq, wfL, wfV, bkL, bkV] at hw hz
  obtain ⟨h1, h2, h3, _⟩ := hw
  match ss, es, fs, h1, h2, h3, hz with
  | x :: r, es, fs, h1, h2, h3, hz =>
    have h := w_tTextA x r (x :: r) es fs rfl h1 h2 h3 (by omega)
    have e : tTextA x r (x :: r) es fs = textS ⟨x :: r, es, fs⟩ := by
      unfold tTextA textS
      simp only [bnd, lA3, lA11, lA16]
      cases hd : x.drop_ <;> simp [stxT, hd]
    rw [e] at h
    exact h
  | [], x :: r, fs, h1, h2, h3, hz =>
    have h := w_tTextB x r (x :: r) fs rfl h2 h3 (by omega)
    have e : tTextB x r (x :: r) fs = textS ⟨[], x :: r, fs⟩ := by
      unfold tTextB textS
      simp [bnd, lB11, lB16, enmT]
    rw [e] at h
    exact h
  | [], [], x :: r, h1, h2, h3, hz =>
    have h := w_tTextC x r (x :: r) rfl h3 (by omega)
    have e : tTextC x r (x :: r) = textS ⟨[], [], x :: r⟩ := by
      unfold tTextC textS
      simp [bnd, lC16, fnT]
    rw [e] at h
    exact h
  | [], [], [], h1, h2, h3, hz =>
    have e : tTextD = textS ⟨[], [], []⟩ := by simp [tTextD, textS]
    rw [← e]
    exact w_tTextD

theorem stxT_len (x : StructD) : (stxT x).length ≤ 3000000 * bkL (structC x) := by
  have h1 := joinT_len fldT fieldC 6 x.fields fun x _ => fldT_len x
  have h2 := brT_len (joinT fldT x.fields)
  simp only [stxT, lineT_len, List.map_cons, List.map_nil, List.sum_cons, List.sum_nil, List.length_cons, List.length_nil, structC_eq, bkL, bkV]
  split <;> simp only [List.length_cons, List.length_nil] <;> omega
theorem enmT_len (x : EnumD) : (enmT x).length ≤ 3000000 * bkL (enumC x) := by
  have h1 := joinT_len varT variantC 6 x.variants fun x _ => varT_len x
  have h2 := brT_len (joinT varT x.variants)
  simp only [enmT, lineT_len, List.map_cons, List.map_nil, List.sum_cons, List.sum_nil, List.length_cons, List.length_nil, enumC_eq, bkL, bkV]
  omega
theorem fnT_len (x : FnD) (h : bkL (fnC x) ≤ 1050000) : (fnT x).length ≤ 3000000 * bkL (fnC x) := by
  have h1 := joinT_len fldT fieldC 6 x.params fun x _ => fldT_len x
  simp only [fnC_eq, bkL, bkV] at h
  have h2 := blT_len x.body 0 (by omega)
  simp only [fnT, List.length_append, lineT_len, List.map_cons, List.map_nil, List.sum_cons, List.sum_nil, List.length_cons, List.length_nil, fnC_eq, bkL, bkV]
  omega
theorem textS_len (s : SourceD) (hz : bkL (sourceC s) ≤ 1050000) : (textS s).length ≤ 3000000 * bkL (sourceC s) := by
  simp only [sourceC_eq, bkL, bkV] at hz ⊢
  have h1 := flat_le stxT (fun x => 3000000 * bkL (structC x)) s.structs fun x _ => stxT_len x
  have h2 := flat_le enmT (fun x => 3000000 * bkL (enumC x)) s.enums fun x _ => enmT_len x
  have h3 := flat_le fnT (fun x => 3000000 * bkL (fnC x)) s.fns fun x hx => fnT_len x (by have := bkR_in (f := fnC) hx; omega)
  rw [sum_mul, ← bkR_map] at h1 h2 h3
  simp only [textS, List.length_append]
  omega
end
end Go.Proofs.Tryz
end
