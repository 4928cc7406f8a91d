/- The texts of a source's parts: in plain words, and their contracts. -/
import Derived.Lib.ItoaLen
import Derived.Test.YtakfpmogpnoibaaGreatDoorRefA
import Derived.Test.YtakfpmogpnoibaaGreatDoorMachD
import Derived.Test.YtakfpmogpnoibaaGreatDoorBldA
set_option linter.unusedVariables false
set_option linter.unusedSimpArgs false
set_option linter.constructorNameAsVariable false
section
namespace Go.Proofs.Tryz
open Go Go.AM
set_option linter.unusedVariables false

open Classical in
noncomputable def dig (z : Int) : List UInt8 := if inI64 z then Lib.itoa z else []
theorem dig_len (z : Int) : (dig z).length ≤ 21 := by
  unfold dig; split
  · rename_i h; exact Lib.itoa_length_le z h.1 h.2
  · simp
theorem dig_eq {z : Int} (h : inI64 z) : dig z = Lib.itoa z := if_pos h
theorem wf_in {z : Int} (h : (Lit.int .i64 z).wf = true) : inI64 z := by
  simp [Lit.wf] at h
  exact h
theorem bkR_mem {e : List V} : ∀ {es : List (List V)}, e ∈ es → bkL e ≤ bkR es
  | x :: es, h => by
    simp only [bkR]
    rcases List.mem_cons.1 h with rfl | h
    · omega
    · have := bkR_mem h; omega
theorem bkR_in {A : Type} {f : A → List V} {l : List A} {x : A} (h : x ∈ l) : bkL (f x) ≤ bkR (l.map f) := bkR_mem (List.mem_map_of_mem h)

theorem drop_bk {A : Type} {e : A → List V} {l : List A} {j : Nat} {x : A} {h : j < l.length} (hx : l[j]'h = x) : bkR ((l.drop j).map e) = bkL (e x) + bkR ((l.drop (j + 1)).map e) := by
  rw [List.drop_eq_getElem_cons h, hx]; rfl
def tyN (t : TyD) : Nat := bkL (tyC t)
theorem tyN_eq (t : TyD) : tyN t = t.name.length + 3 + bkR (t.l.map tyC) := by
  simp only [tyN, tyC_eq, bkL, bkV]; omega
theorem tyN_mem {t u : TyD} (h : u ∈ t.l) : tyN u + 3 + t.name.length ≤ tyN t := by
  have := bkR_in (f := tyC) h
  rw [tyN_eq t]
  unfold tyN
  omega

def tyT (t : TyD) : List UInt8 :=
  if t.k = 1 then [105, 110, 116] else if t.k = 2 ∨ t.k = 3 then t.name else if t.k = 7 then [99, 111, 32] ++ t.name
  else match t with
    | ⟨k, _, [x]⟩ => if k = 4 then [98, 111, 120, 32] ++ tyT x else if k = 5 then [38] ++ tyT x else if k = 6 then [38, 109, 117, 116, 32] ++ tyT x else [63]
    | _ => [63]
theorem tyT_len (t : TyD) : (tyT t).length ≤ 5 * tyN t := by
  unfold tyT
  have hn := tyN_eq t
  split
  · simp; omega
  · split
    · omega
    · split
      · simp; omega
      · split
        · rename_i k nm x _ _ _
          have h := tyT_len x
          have h2 : tyN x + 3 + nm.length ≤ tyN ⟨k, nm, [x]⟩ := tyN_mem (t := ⟨k, nm, [x]⟩) (by simp)
          split
          · simp; omega
          · split
            · simp; omega
            · split
              · simp; omega
              · simp; omega
        · simp; omega
theorem tyT_one (k : Int) (nm : List UInt8) (x : TyD) : tyT ⟨k, nm, [x]⟩ = if k = 1 then [105, 110, 116] else if k = 2 ∨ k = 3 then nm else if k = 7 then [99, 111, 32] ++ nm else if k = 4 then [98, 111, 120, 32] ++ tyT x else if k = 5 then [38] ++ tyT x else if k = 6 then [38, 109, 117, 116, 32] ++ tyT x else [63] := by
  rw [tyT]
theorem tyT_not (k : Int) (nm : List UInt8) (l : List TyD) (h : l.length ≠ 1) : tyT ⟨k, nm, l⟩ = if k = 1 then [105, 110, 116] else if k = 2 ∨ k = 3 then nm else if k = 7 then [99, 111, 32] ++ nm else [63] := by
  rw [tyT]
  intro a b c hh
  simp at hh
  obtain ⟨_, _, rfl⟩ := hh
  simp at h

theorem flat_le {A : Type} (f : A → List UInt8) (g : A → Nat) : ∀ l : List A, (∀ x ∈ l, (f x).length ≤ g x) → ((l.map f).flatten).length ≤ (l.map g).sum
  | [], _ => by simp
  | x :: l, h => by
    have h1 := flat_le f g l fun y hy => h y (List.mem_cons_of_mem _ hy)
    have h2 := h x List.mem_cons_self
    simp only [List.map_cons, List.flatten_cons, List.length_append, List.sum_cons]
    omega
theorem sum_mul {A : Type} (f : A → Nat) (c : Nat) : ∀ l : List A, (l.map fun x => c * f x).sum = c * (l.map f).sum
  | [] => rfl
  | x :: l => by simp only [List.map_cons, List.sum_cons, sum_mul f c l, Nat.mul_add]
theorem join_le (sep : List UInt8) : ∀ xs : List (List UInt8), (Lib.join xs sep).length ≤ (xs.map fun x => x.length + sep.length).sum
  | [] => by simp [Lib.join_nil]
  | [x] => by simp [Lib.join_one]
  | x :: y :: r => by
    have h := join_le sep (y :: r)
    have e : Lib.join (x :: y :: r) sep = x ++ sep ++ Lib.join (y :: r) sep := by simp [Lib.join, List.intercalate, List.intersperse]
    rw [e]
    simp only [List.length_append, List.map_cons, List.sum_cons] at h ⊢
    omega
def joinT {A : Type} (f : A → List UInt8) (l : List A) : List UInt8 := Lib.join (l.map f) [44, 32]
theorem joinT_len {A : Type} (f : A → List UInt8) (e : A → List V) (c : Nat) (l : List A) (h : ∀ x ∈ l, (f x).length + 2 ≤ c * bkL (e x)) : (joinT f l).length ≤ c * bkR (l.map e) := by
  refine Nat.le_trans (join_le _ _) ?_
  rw [List.map_map, bkR_map, ← sum_mul]
  have : ∀ m : List A, (∀ x ∈ m, (f x).length + 2 ≤ c * bkL (e x)) → (m.map ((fun x : List UInt8 => x.length + [44, 32].length) ∘ f)).sum ≤ (m.map fun x => c * bkL (e x)).sum := by
    intro m
    induction m with
    | nil => intro _; simp
    | cons x m ih =>
      intro h
      have h1 := ih fun y hy => h y (List.mem_cons_of_mem _ hy)
      have h2 := h x List.mem_cons_self
      simp only [List.map_cons, List.sum_cons, Function.comp, List.length_cons, List.length_nil] at h1 h2 ⊢
      omega
  exact this l h

def plT (p : PlaceD) : List UInt8 := p.name ++ (p.path.map fun x => if x.field = [] then [46, 42] else 46 :: x.field).flatten
theorem plT_len (p : PlaceD) : (plT p).length ≤ 2 * bkL (placeC p) := by
  have h := flat_le (fun x : StepD => if x.field = [] then [46, 42] else 46 :: x.field) (fun x => 2 * bkL (stepC x)) p.path fun x _ => by
    simp only [stepC_eq, bkL, bkV]
    split <;> simp <;> omega
  rw [sum_mul, ← bkR_map] at h
  simp only [plT, List.length_append, placeC_eq, bkL, bkV]
  omega
noncomputable def opT (o : OperD) : List UInt8 := if o.num then dig o.n else plT o.p
theorem opT_len (o : OperD) : (opT o).length ≤ 6 * bkL (operC o) := by
  have h1 := dig_len o.n
  have h2 := plT_len o.p
  simp only [placeC_eq, bkL, bkV] at h2
  simp only [operC_eq, bkL, bkV]
  unfold opT
  split <;> omega
noncomputable def argT (l : List OperD) : List UInt8 := [40] ++ joinT opT l ++ [41]
theorem argT_len (l : List OperD) : (argT l).length ≤ 2 + 7 * bkR (l.map operC) := by
  have h := joinT_len opT operC 7 l fun o _ => by
    have := opT_len o
    simp only [operC_eq, bkL, bkV] at this ⊢
    omega
  simp only [argT, List.length_append, List.length_cons, List.length_nil]
  omega
noncomputable def argO (l : List OperD) : List UInt8 := if l.length = 0 then [] else argT l
theorem argO_len (l : List OperD) : (argO l).length ≤ 2 + 7 * bkR (l.map operC) := by
  have := argT_len l
  unfold argO
  split
  · simp
  · omega
noncomputable def opAt (l : List OperD) (i : Int) : List UInt8 := if (l.length : Int) ≤ i then [63] else opT (l.getD i.toNat default)
theorem opAt_len (l : List OperD) (i : Int) (hi : 0 ≤ i) : (opAt l i).length ≤ 1 + 6 * bkR (l.map operC) := by
  unfold opAt
  split
  · simp
  · have hl : i.toNat < l.length := by omega
    have h1 := opT_len (l.getD i.toNat default)
    have h2 := bkR_in (f := operC) (show l.getD i.toNat default ∈ l by rw [List.getD_eq_getElem?_getD, List.getElem?_eq_getElem hl]; exact List.getElem_mem _)
    omega
def signT (k : Int) : List UInt8 :=
  if k = 1 then [32, 43, 32] else if k = 2 then [32, 45, 32] else if k = 3 then [32, 42, 32] else if k = 4 then [32, 60, 32] else if k = 5 then [32, 61, 61, 32] else []
theorem signT_len (k : Int) : (signT k).length ≤ 4 := by
  unfold signT
  repeat' split
  all_goals simp
noncomputable def setR (v : RvD) : List UInt8 :=
  if v.k = 0 then opAt v.ops 0
  else if v.k = 6 then [38] ++ plT v.p
  else if v.k = 7 then [38, 109, 117, 116, 32] ++ plT v.p
  else if v.k = 8 then [98, 111, 120, 32] ++ opAt v.ops 0
  else if v.k = 9 then [117, 110, 98, 111, 120, 32] ++ plT v.p
  else if v.k = 13 then [97, 119, 97, 105, 116, 32] ++ plT v.p
  else if v.k = 14 then [112, 111, 108, 108, 32] ++ plT v.p
  else if v.k = 15 then [119, 97, 105, 116, 32] ++ opAt v.ops 0
  else if v.k = 10 then v.name ++ argT v.ops
  else if v.k = 12 then [115, 116, 97, 114, 116, 32] ++ v.name ++ argT v.ops
  else if v.k = 11 then v.name ++ [58, 58] ++ v.variant ++ argO v.ops
  else [63]
theorem setR_len (v : RvD) : (setR v).length ≤ 20 * bkL (rvC v) := by
  have h1 := opAt_len v.ops 0 (by decide)
  have h3 := plT_len v.p
  have h4 := argT_len v.ops
  have h5 := argO_len v.ops
  simp only [placeC_eq, bkL, bkV] at h3
  simp only [rvC_eq, bkL, bkV]
  unfold setR
  repeat' split
  all_goals (try simp only [List.length_append, List.length_cons, List.length_nil])
  all_goals omega
noncomputable def setT (v : RvD) : List UInt8 := if signT v.k = [] then setR v else opAt v.ops 0 ++ signT v.k ++ opAt v.ops 1
theorem setT_len (v : RvD) : (setT v).length ≤ 20 * bkL (rvC v) := by
  have h1 := opAt_len v.ops 0 (by decide)
  have h2 := opAt_len v.ops 1 (by decide)
  have h5 := signT_len v.k
  have h6 := setR_len v
  simp only [rvC_eq, bkL, bkV] at h6 ⊢
  unfold setT
  split
  · omega
  · simp only [List.length_append]; omega
def fldT (f : FieldD) : List UInt8 := f.name ++ [58, 32] ++ tyT f.ty
theorem fldT_len (f : FieldD) : (fldT f).length + 2 ≤ 6 * bkL (fieldC f) := by
  have h := tyT_len f.ty
  have h2 := tyN_eq f.ty
  simp only [fldT, List.length_append, List.length_cons, List.length_nil, fieldC_eq, bkL, bkV]
  omega
def varT (v : VariantD) : List UInt8 := if v.ty.k = 0 then v.name else v.name ++ [40] ++ tyT v.ty ++ [41]
theorem varT_len (v : VariantD) : (varT v).length + 2 ≤ 6 * bkL (variantC v) := by
  have h := tyT_len v.ty
  have h2 := tyN_eq v.ty
  unfold varT
  split
  · simp only [variantC_eq, bkL, bkV]; omega
  · simp only [List.length_append, List.length_cons, List.length_nil, variantC_eq, bkL, bkV]; omega
def brT (s : List UInt8) : List UInt8 := if s = [] then [123, 125] else [123, 32] ++ s ++ [32, 125]
theorem brT_len (s : List UInt8) : (brT s).length ≤ s.length + 4 := by
  unfold brT
  split
  · rename_i h; subst h; simp
  · simp only [List.length_append, List.length_cons, List.length_nil]; omega
end Go.Proofs.Tryz
end
section
namespace Go.Proofs.Tryz
open Go Go.AM
attribute [local simp] wpG_op wpG_nil contG_some wpG_guard guardG_v guardG_o guardG_tup gval pureOp stepG_if isPick pickG_pick pickB_b pickOK isCall step_move step_assign step_alloc step_box boxV_some step_load step_store step_binOp step_unOp step_fieldAddr faV step_indexAddr ixA_slc ixA_arr step_extract extV_tup step_nilCheck ncV_ptr ncV_rp ncV_fn ncV_mp step_build buildV step_buildSlice bsV step_index ixV_arr ixV_str step_append apB step_makeSlice msV_i step_makeFunc over step_len step_makeMap mmV step_mapUpdate step_insert muA_map muB_mp step_lookup lkA_map lkB_mp step_slice slcV_s slcV_sl slcV_ro cutB_some slObV_arr bound_none bound_some bndV_i lenB_str lenB_ro lenB_sl lenB_nil lenB_z ld_ptr ld_rp offV_ptr offV_rp idxV_ro idxV_sl unV_not unV_neg binV_int binV_str binV_eqlb binV_neqb intOp strOp St.put updL setOb St.ev toV St.lk cellsOf AM.valOf TK.agg stv fillV places TI.zero condT_true condT_false finS resL resSlot packV ren ren1 ren0 Value.cells builtinV appendV elemsOf keepT room_of wrap_in toIdx passed Function.comp_def take_len_map lenV touchOf hid tab1 tab2 tab3 tab4 tab5 tab6 tab7 tab8 tab9 tab20 tab22 tab23 tab24 tab26 tab32 tab33 tab35 tab36 tab37 tab39 tab41 tab42 tab43 tab45 tab46 tab47 tab49 tab50 tab52 tab74 tab79 tab83 tab86 tab87 tab89 tab92 tab100 tab101 tab102 tab103 tab105 tab107 tab108 tab113 tab114 tab116 tab117 tab118 tab122 tab123 tab125 tab127 tab130 tab132 tab136 tab173 tab175 tab178 tab179 tab180 tab182 tab189 tab215 tab219 tab220 tab224 tab225 tab241 tab244 tab247 tab253 tab261 tab262 tab265 tab266 armC_eq blockC_eq bodyC_eq enumC_eq fieldC_eq fnC_eq inC_eq localC_eq mirBodyC_eq operC_eq placeC_eq rvC_eq sourceC_eq spotC_eq stepC_eq stmtC_eq structC_eq tmC_eq tyC_eq useC_eq valueC_eq variantC_eq binV_eqls binV_neqs cutL_nil cutL_junk cutL_cons ren_arr ren_gone ren_unborn ren_var ren_row step_convert cvV_i cvV_sl cvV_s cvK_slc cvE_u8 bytesOf bor1 bor2 bor3 bor4
set_option linter.unusedSimpArgs false
set_option linter.unusedVariables false
set_option maxRecDepth 10000
set_option maxHeartbeats 40000000
noncomputable section
theorem w_dig (z : Int) (hz : inI64 z) : QC prog 100 [.i .i64 z] [] (.s (dig z)) [] := by rw [dig_eq hz]; exact walkIt z hz

def tTypeB (p0 : TyD) : (List UInt8) :=
 (Ctl.run ((if p0.k = 1 then .ret ([105, 110, 116] : List UInt8) else (bnd (if p0.k = 2 then true else (decide (p0.k = 3))) fun (v6 : Bool) => (if v6 = true then .ret p0.name else (if p0.k = 7 then .ret (([99, 111, 32] : List UInt8) ++ p0.name) else (if p0.k = 4 then .go ([98, 111, 120, 32] : List UInt8) else (if p0.k = 5 then .go ([38] : List UInt8) else (if p0.k = 6 then .go ([38, 109, 117, 116, 32] : List UInt8) else .go ([] : List UInt8)))))))) : Ctl ((List UInt8)) ((List UInt8))) fun (v3 : (List UInt8)) => (if (v3 = ([] : List UInt8)) ∨ (¬ ((p0.l.length : Int) = 1)) then ([63] : List UInt8) else (bnd (p0.l.getD 0 default) fun (y18_3 : TyD) => (v3 ++ (tyT y18_3)))))
theorem w_tTypeB (p0 : TyD) (hz : tyN p0 ≤ 1050000) (H : ∀ u : TyD, tyN u < tyN p0 → QC prog 31 [.agg [.i .i64 u.k, .s u.name, .ro 3 (u.l.map tyC)]] [] (.s (tyT u)) []) : QC prog 31 [.agg [.i .i64 p0.k, .s p0.name, .ro 3 (p0.l.map tyC)]] [] (.s (tTypeB p0)) [] := by
 refine QC.of_body tabOK func31 rfl (by kernel_rfl) ?_
 simp only [f31]
 generalize e : tTypeB p0 = R
 unfold tTypeB at e
 have hn := tyN_eq p0
 refine SR ?_
 simp -implicitDefEqProofs
 refine SR ?_
 simp -implicitDefEqProofs
 refine EV.seq (SR ?_)
 simp -implicitDefEqProofs
 obtain ⟨z3, e3, e⟩ := run_split e
 refine EV.nrm (fun v : { v : ((List UInt8)) × (Unit) // z3 = .go v.1 ∧ (fun (v3 : (List UInt8)) => v3.length ≤ 5) v.1 } => (fun (v3 : (List UInt8)) (g3 : Unit) => (⟨[J, .ptr 0 0 0 0, J, .s v3, J, J, J, J, J, J, J, J, J, J, J, J, J, J, J, J, J, J, J, J, J, J, J, J, J, J, J, J, J, J, J, J, J, J, J], [.arr 0 3 [[.i .i64 p0.k, .s p0.name, .ro 3 (p0.l.map tyC)]]]⟩ : St)) v.1.1 v.1.2) ?_ ?_
 ·skip
  refine EV.block (SR ?_)
  simp -implicitDefEqProofs
  refine EV.condT ?_
  simp -implicitDefEqProofs
  refine condT_intro (fun k1 => ?_) (fun k1 => ?_)
  ·try simp at k1
   obtain ⟨f1, e3⟩ := PO e3 k1
   try simp at f1
   refine SR ?_
   simp -implicitDefEqProofs
   refine EV.ret ?_
   simp only [KR1, KR2, KR3, KR4]
   replace e := run_back e e3
   subst e
   refine Fin.pure0 ?_
   first | (simp; done) | (simp <;> grind)
  try simp at k1
  obtain ⟨f1, e3⟩ := NO e3 k1
  try simp at f1
  refine EV.seq (SR ?_)
  simp -implicitDefEqProofs
  obtain ⟨z6, e6, e3⟩ := bnd_split e3
  refine EV.nrm (fun v : { v : (Bool) × (Unit) // z6 = v.1 } => (fun (v6 : Bool) (g6 : Unit) => (⟨[J, .ptr 0 0 0 0, J, .s ([] : List UInt8), J, .i .i64 p0.k, J, J, .b v6, J, J, J, J, J, J, J, J, J, J, J, J, J, J, J, J, J, J, J, J, J, J, J, J, J, J, J, J, J, J], [.arr 0 3 [[.i .i64 p0.k, .s p0.name, .ro 3 (p0.l.map tyC)]]]⟩ : St)) v.1.1 v.1.2) ?_ ?_
  ·skip
   refine EV.condT ?_
   simp -implicitDefEqProofs
   refine condT_intro (fun k2 => ?_) (fun k2 => ?_)
   ·try simp at k2
    obtain ⟨f2, e6⟩ := PO e6 k2
    try simp at f2
    refine EV.skip ?_
    simp only [KN1, KN2, KN3]
    refine ⟨⟨(true, ()), e6.symm⟩, ?_⟩
    try dsimp only
    refine Sub.cutF 1 (by simp) ?_ ?_ <;> simp [List.range_succ, toIdx_range, passed]
   try simp at k2
   obtain ⟨f2, e6⟩ := NO e6 k2
   try simp at f2
   refine RG ?_
   simp -implicitDefEqProofs
   refine ⟨⟨((decide (p0.k = 3)), ()), e6.symm⟩, ?_⟩
   try dsimp only
   refine Sub.cutF 1 (by simp) ?_ ?_ <;> simp [List.range_succ, toIdx_range, passed]
  rintro ⟨⟨v6, g6⟩, e6⟩
  simp only [KN1, KN2, KN3, KN4]
  replace e3 := bnd_on e3 e6
  try dsimp only at e3
  refine EV.condT ?_
  simp -implicitDefEqProofs
  refine condT_intro (fun k3 => ?_) (fun k3 => ?_)
  ·try simp at k3
   obtain ⟨f3, e3⟩ := PO e3 k3
   try simp at f3
   refine SR ?_
   simp -implicitDefEqProofs
   refine EV.ret ?_
   simp only [KR1, KR2, KR3, KR4]
   replace e := run_back e e3
   subst e
   refine Fin.pure0 ?_
   first | (simp; done) | (simp <;> grind)
  try simp at k3
  obtain ⟨f3, e3⟩ := NO e3 k3
  try simp at f3
  refine SR ?_
  simp -implicitDefEqProofs
  refine EV.condT ?_
  simp -implicitDefEqProofs
  refine condT_intro (fun k4 => ?_) (fun k4 => ?_)
  ·try simp at k4
   obtain ⟨f4, e3⟩ := PO e3 k4
   try simp at f4
   refine EV.seq ?_
   have ct5 : (([99, 111, 32] : List UInt8)).length + (p0.name).length ≤ 9223372036854775807 := by (first | omega | (simp; omega))
   try simp at ct5
   refine RG ?_
   simp -implicitDefEqProofs [ct5]
   refine EV.ret ?_
   simp only [KR1, KR2, KR3, KR4]
   replace e := run_back e e3
   subst e
   refine Fin.pure0 ?_
   first | (simp; done) | (simp <;> grind)
  try simp at k4
  obtain ⟨f4, e3⟩ := NO e3 k4
  try simp at f4
  refine SR ?_
  simp -implicitDefEqProofs
  refine EV.condT ?_
  simp -implicitDefEqProofs
  refine condT_intro (fun k6 => ?_) (fun k6 => ?_)
  ·try simp at k6
   obtain ⟨f6, e3⟩ := PO e3 k6
   try simp at f6
   refine RG ?_
   simp -implicitDefEqProofs
   refine ⟨⟨(([98, 111, 120, 32] : List UInt8), ()), e3.symm, by ((try dsimp only); first | omega | assumption | (simp; done) | (simp; omega))⟩, ?_⟩
   try dsimp only
   refine Sub.cutF 1 (by simp) ?_ ?_ <;> simp [List.range_succ, toIdx_range, passed]
  try simp at k6
  obtain ⟨f6, e3⟩ := NO e3 k6
  try simp at f6
  refine SR ?_
  simp -implicitDefEqProofs
  refine EV.condT ?_
  simp -implicitDefEqProofs
  refine condT_intro (fun k7 => ?_) (fun k7 => ?_)
  ·try simp at k7
   obtain ⟨f7, e3⟩ := PO e3 k7
   try simp at f7
   refine RG ?_
   simp -implicitDefEqProofs
   refine ⟨⟨(([38] : List UInt8), ()), e3.symm, by ((try dsimp only); first | omega | assumption | (simp; done) | (simp; omega))⟩, ?_⟩
   try dsimp only
   refine Sub.cutF 1 (by simp) ?_ ?_ <;> simp [List.range_succ, toIdx_range, passed]
  try simp at k7
  obtain ⟨f7, e3⟩ := NO e3 k7
  try simp at f7
  refine SR ?_
  simp -implicitDefEqProofs
  refine EV.condT ?_
  simp -implicitDefEqProofs
  refine condT_intro (fun k8 => ?_) (fun k8 => ?_)
  ·try simp at k8
   obtain ⟨f8, e3⟩ := PO e3 k8
   try simp at f8
   refine RG ?_
   simp -implicitDefEqProofs
   refine ⟨⟨(([38, 109, 117, 116, 32] : List UInt8), ()), e3.symm, by ((try dsimp only); first | omega | assumption | (simp; done) | (simp; omega))⟩, ?_⟩
   try dsimp only
   refine Sub.cutF 1 (by simp) ?_ ?_ <;> simp [List.range_succ, toIdx_range, passed]
  try simp at k8
  obtain ⟨f8, e3⟩ := NO e3 k8
  try simp at f8
  refine EV.skip ?_
  simp only [KN1, KN2, KN3]
  refine ⟨⟨(([] : List UInt8), ()), e3.symm, by ((try dsimp only); first | omega | assumption | (simp; done) | (simp; omega))⟩, ?_⟩
  try dsimp only
  refine Sub.cutF 1 (by simp) ?_ ?_ <;> simp [List.range_succ, toIdx_range, passed]
 rintro ⟨⟨v3, g3⟩, e3, p3⟩
 simp only [KN1, KN2, KN3, KN4]
 try dsimp only at p3
 replace e := run_on e e3
 try dsimp only at e
 refine EV.seq (SR ?_)
 simp -implicitDefEqProofs +contextual
 refine EV.condT ?_
 simp -implicitDefEqProofs
 refine condT_intro (fun k9 => ?_) (fun k9 => ?_)
 ·try simp at k9
  obtain ⟨f9, e⟩ := PO e k9
  try simp at f9
  refine SR ?_
  simp -implicitDefEqProofs
  refine EV.ret ?_
  simp only [KR1, KR2, KR3, KR4]
  subst e
  refine Fin.pure0 ?_
  first | (simp; done) | (simp <;> grind)
 try simp at k9
 obtain ⟨f9, e⟩ := NO e k9
 try simp at f9
 refine EV.skip ?_
 simp only [KN1, KN2, KN3]
 refine EV.seq ?_
 obtain ⟨y18_3, gy18_3⟩ : ∃ z, (p0.l.getD 0 default) = z := ⟨_, rfl⟩
 replace e := bnd_on e gy18_3
 try dsimp only at e
 have b10 : 0 ≤ 0 ∧ 0 < (p0.l.length : Int) := by omega
 have c10 : 0 < p0.l.length := by omega
 have hy18_3 : p0.l[0] = y18_3 := by rw [← gy18_3, List.getD_eq_getElem?_getD, List.getElem?_eq_getElem c10]; rfl
 have my18_3 : y18_3 ∈ p0.l := by rw [← hy18_3]; exact List.getElem_mem _
 have := tyT_len y18_3
 have := tyN_mem (u := y18_3) (t := p0) (by assumption)
 have ct11 : (v3).length + ((tyT y18_3)).length ≤ 9223372036854775807 := by (first | omega | (simp; omega))
 try simp at ct11
 refine RG ?_
 simp -implicitDefEqProofs [b10, c10, hy18_3, ct11]
 refine callG_fun (H y18_3 (by have := tyN_mem (by assumption); omega)) ?_ ?_
 ·first | (simp; done) | (simp [b10, c10, hy18_3, ct11]; done)
 simp -implicitDefEqProofs [b10, c10, hy18_3, ct11]
 refine EV.ret ?_
 simp only [KR1, KR2, KR3, KR4]
 subst e
 refine Fin.pure0 ?_
 first | (simp; done) | (simp <;> grind)

theorem tTypeB_eq (p0 : TyD) : tTypeB p0 = tyT p0 := by
 obtain ⟨k, nm, l⟩ := p0
 by_cases hl : l.length = 1
 ·match l, hl with
  | [x], _ =>
   rw [tyT_one]
   unfold tTypeB
   by_cases h1 : k = 1
   ·subst h1; simp [Ctl.run, bnd]
   by_cases h2 : k = 2
   ·subst h2; simp [Ctl.run, bnd]
   by_cases h3 : k = 3
   ·subst h3; simp [Ctl.run, bnd]
   by_cases h7 : k = 7
   ·subst h7; simp [Ctl.run, bnd]
   by_cases h4 : k = 4
   ·subst h4; simp [Ctl.run, bnd]
   by_cases h5 : k = 5
   ·subst h5; simp [Ctl.run, bnd]
   by_cases h6 : k = 6
   ·subst h6; simp [Ctl.run, bnd]
   simp [h1, h2, h3, h7, h4, h5, h6, Ctl.run, bnd]
 rw [tyT_not _ _ _ hl]
 have hl2 : ¬ ((l.length : Int) = 1) := by omega
 unfold tTypeB
 by_cases h1 : k = 1
 ·subst h1; simp [Ctl.run, bnd]
 by_cases h2 : k = 2
 ·subst h2; simp [Ctl.run, bnd]
 by_cases h3 : k = 3
 ·subst h3; simp [Ctl.run, bnd]
 by_cases h7 : k = 7
 ·subst h7; simp [Ctl.run, bnd]
 by_cases h4 : k = 4
 ·subst h4; simp [Ctl.run, bnd, hl2]
 by_cases h5 : k = 5
 ·subst h5; simp [Ctl.run, bnd, hl2]
 by_cases h6 : k = 6
 ·subst h6; simp [Ctl.run, bnd, hl2]
 simp [h1, h2, h3, h7, h4, h5, h6, Ctl.run, bnd]
theorem w_tType : ∀ (m : Nat) (p0 : TyD), tyN p0 ≤ m → m ≤ 1050000 → QC prog 31 [.agg [.i .i64 p0.k, .s p0.name, .ro 3 (p0.l.map tyC)]] [] (.s (tyT p0)) []
 | m, p0, h1, h2 => by
  rw [← tTypeB_eq]
  exact w_tTypeB p0 (by omega) fun u hu => w_tType (m - 1) u (by omega) (by omega)
 termination_by m p0 => tyN p0

def tPlace_l3  : List StepD → (List UInt8) → (List UInt8)
 | [], a3_0 => a3_0
 | x3 :: xs3, a3_0 => (if x3.field = ([] : List UInt8) then tPlace_l3 xs3 (a3_0 ++ ([46, 42] : List UInt8)) else tPlace_l3 xs3 (a3_0 ++ (([46] : List UInt8) ++ x3.field)))
def tPlace (p0 : PlaceD) : (List UInt8) :=
 (bnd (tPlace_l3 p0.path p0.name) fun (v3 : (List UInt8)) => v3)
theorem w_tPlace (p0 : PlaceD) (hw : wfL (placeC p0)) (hz : bkL (placeC p0) ≤ 1050000) : QC prog 29 [.agg [.s p0.name, .ro 1 (p0.path.map stepC)]] [] (.s (tPlace p0)) [] := by
 refine QC.of_body tabOK func29 rfl (by kernel_rfl) ?_
 simp only [f29]
 generalize e : tPlace p0 = R
 unfold tPlace at e
 have hb := hz
 simp only [placeC_eq, bkL, bkV] at hb
 refine SR ?_
 simp -implicitDefEqProofs
 refine SR ?_
 simp -implicitDefEqProofs
 refine EV.seq (SR ?_)
 simp -implicitDefEqProofs
 obtain ⟨z3, e3, e⟩ := bnd_split e
 refine EV.nrm (fun v : { v : ((List UInt8)) × (Unit) // z3 = v.1 } => (fun (v3 : (List UInt8)) (g3 : Unit) => (⟨[J, J, J, .s v3, J, J, J, J, J, J, J, J, J, J, J, J, J, J, J, J, J, J, J, J, J, J, J], []⟩ : St)) v.1.1 v.1.2) ?_ ?_
 ·skip
  refine EV.block ?_
  refine EV.loopB (fun x : { x : Nat × (List UInt8) // x.1 ≤ p0.path.length ∧ tPlace_l3 (p0.path.drop x.1) x.2 = z3 ∧ (fun (j3 : Nat) (a3_0 : List UInt8) => a3_0.length + 2 * bkR ((p0.path.drop j3).map stepC) ≤ 3000000) x.1 x.2 } => (fun (j3 : Nat) (a3_0 : List UInt8) => (⟨[J, J, J, .s a3_0, J, J, J, J, J, .ro 1 (p0.path.map stepC), .i .i64 (p0.path.length : Int), .i .i64 (j3 : Int), J, J, J, J, J, J, J, J, J, J, J, J, J, J, J], []⟩ : St)) x.1.1 x.1.2) (fun x => p0.path.length - x.1.1) ⟨(0, p0.name), Nat.zero_le _, e3, by ((try dsimp only); (try simp only [List.drop_zero, List.length_append, List.length_cons, List.length_nil]); omega)⟩ ?_ ?_
  ·skip
   try dsimp only
   try dsimp only
   refine Sub.cutF 0 (by simp) ?_ ?_ <;> simp [List.range_succ, toIdx_range, passed]
  rintro ⟨⟨j3, a3_0⟩, hi3, e3, q3⟩
  simp only at hi3 e3 ⊢
  try dsimp only at q3
  refine SR ?_
  simp -implicitDefEqProofs
  refine EV.seq ?_
  refine EV.room 9 (by rfl) (fun mj3 => ?_)
  simp at mj3
  refine EV.condT ?_
  simp -implicitDefEqProofs
  refine condT_intro (fun k1 => ?_) (fun k1 => ?_)
  ·try simp at k1
   have u1 : j3 < p0.path.length := by omega
   obtain ⟨x3, hx3⟩ : ∃ z, p0.path[j3] = z := ⟨_, rfl⟩
   have mx3 : x3 ∈ p0.path := by rw [← hx3]; exact List.getElem_mem _
   have hd3 := drop_bk (e := stepC) hx3
   simp only [stepC_eq, bkL, bkV] at hd3
   rw [List.drop_eq_getElem_cons u1, hx3, tPlace_l3] at e3
   refine EV.skip ?_
   simp only [KN1, KN2, KN3]
   refine EV.seq (EV.block (SR ?_))
   simp -implicitDefEqProofs [k1, u1, hx3]
   refine SR ?_
   simp -implicitDefEqProofs [k1, u1, hx3]
   refine EV.condT ?_
   simp -implicitDefEqProofs [k1, u1, hx3]
   refine condT_intro (fun k2 => ?_) (fun k2 => ?_)
   ·try simp at k2
    obtain ⟨f2, e3⟩ := PO e3 k2
    try simp at f2
    have ct3 : (a3_0).length + (([46, 42] : List UInt8)).length ≤ 9223372036854775807 := by ((try dsimp only); (try simp only [List.drop_zero, List.length_append, List.length_cons, List.length_nil]); omega)
    try simp at ct3
    refine RG ?_
    simp -implicitDefEqProofs [k1, u1, hx3, ct3]
    refine RG ?_
    simp -implicitDefEqProofs [k1, u1, hx3, ct3]
    have w3 : IntKind.i64.wrap ((j3 : Int) + 1) = (j3 : Int) + 1 := wrap_in _ (by omega) (by omega)
    refine ⟨⟨(j3 + 1, (a3_0 ++ ([46, 42] : List UInt8))), by omega, e3, by ((try dsimp only); (try simp only [List.drop_zero, List.length_append, List.length_cons, List.length_nil]); omega)⟩, by dsimp only; omega, ?_⟩
    try dsimp only
    refine Sub.cutF 0 (by simp) ?_ ?_ <;> simp [List.range_succ, toIdx_range, passed, k1, u1, hx3, ct3, w3]
   try simp at k2
   obtain ⟨f2, e3⟩ := NO e3 k2
   try simp at f2
   have ct4 : (([46] : List UInt8)).length + (x3.field).length ≤ 9223372036854775807 := by ((try dsimp only); (try simp only [List.drop_zero, List.length_append, List.length_cons, List.length_nil]); omega)
   try simp at ct4
   have ct5 : (a3_0).length + ((([46] : List UInt8) ++ x3.field)).length ≤ 9223372036854775807 := by ((try dsimp only); (try simp only [List.drop_zero, List.length_append, List.length_cons, List.length_nil]); omega)
   try simp at ct5
   refine RG ?_
   simp -implicitDefEqProofs [k1, u1, hx3, ct4, ct5]
   refine RG ?_
   simp -implicitDefEqProofs [k1, u1, hx3, ct4, ct5]
   have w3 : IntKind.i64.wrap ((j3 : Int) + 1) = (j3 : Int) + 1 := wrap_in _ (by omega) (by omega)
   refine ⟨⟨(j3 + 1, (a3_0 ++ (([46] : List UInt8) ++ x3.field))), by omega, e3, by ((try dsimp only); (try simp only [List.drop_zero, List.length_append, List.length_cons, List.length_nil]); omega)⟩, by dsimp only; omega, ?_⟩
   try dsimp only
   refine Sub.cutF 0 (by simp) ?_ ?_ <;> simp [List.range_succ, toIdx_range, passed, k1, u1, hx3, ct4, ct5, w3]
  try simp at k1
  have d1 : p0.path.drop j3 = [] := List.drop_eq_nil_of_le (by omega)
  rw [d1, tPlace_l3] at e3
  refine EV.exit ?_
  simp -implicitDefEqProofs
  refine ⟨⟨(a3_0, ()), e3.symm⟩, ?_⟩
  try dsimp only
  refine Sub.cutF 0 (by simp) ?_ ?_ <;> simp [List.range_succ, toIdx_range, passed]
 rintro ⟨⟨v3, g3⟩, e3⟩
 simp only [KN1, KN2, KN3, KN4]
 replace e := bnd_on e e3
 try dsimp only at e
 refine SR ?_
 simp -implicitDefEqProofs
 refine EV.ret ?_
 simp only [KR1, KR2, KR3, KR4]
 subst e
 refine Fin.pure0 ?_
 first | (simp; done) | (simp <;> grind)
theorem tPlace_eq (p0 : PlaceD) : tPlace p0 = plT p0 := by
 have h : ∀ (l : List StepD) (a : List UInt8), tPlace_l3 l a = a ++ (l.map fun x => if x.field = [] then [46, 42] else 46 :: x.field).flatten := by
  intro l
  induction l with
  | nil => intro a; simp [tPlace_l3]
  | cons x l ih =>
   intro a
   simp only [tPlace_l3]
   by_cases hf : x.field = [] <;> simp [hf, ih]
 unfold tPlace plT
 simp [bnd, h]
theorem w_tPlace' (p0 : PlaceD) (hw : wfL (placeC p0)) (hz : bkL (placeC p0) ≤ 1050000) : QC prog 29 [.agg [.s p0.name, .ro 1 (p0.path.map stepC)]] [] (.s (plT p0)) [] := by rw [← tPlace_eq p0]; exact w_tPlace p0 hw hz

def tOper (p0 : OperD) : (List UInt8) :=
 (if p0.num = true then (dig p0.n) else (plT p0.p))
theorem w_tOper (p0 : OperD) (hw : wfL (operC p0)) (hz : bkL (operC p0) ≤ 1050000) : QC prog 32 [.agg [.b p0.num, .i .i64 p0.n, .s p0.p.name, .ro 1 (p0.p.path.map stepC)]] [] (.s (tOper p0)) [] := by
 refine QC.of_body tabOK func32 rfl (by kernel_rfl) ?_
 simp only [f32]
 generalize e : tOper p0 = R
 unfold tOper at e
 have hb := hz
 simp only [operC_eq, bkL, bkV] at hb
 simp only [operC_eq, wfL, wfV] at hw
 have hw1 := hw.2.1
 have hz1 : bkL (placeC p0.p) ≤ 1050000 := by simp only [placeC_eq, bkL, bkV]; omega
 have hw2 : wfL (placeC p0.p) := by simp only [placeC_eq, wfL, wfV]; exact hw.2.2
 refine SR ?_
 simp -implicitDefEqProofs
 refine EV.seq (SR ?_)
 simp -implicitDefEqProofs
 refine EV.condT ?_
 simp -implicitDefEqProofs
 refine condT_intro (fun k1 => ?_) (fun k1 => ?_)
 ·try simp at k1
  obtain ⟨f1, e⟩ := PO e k1
  try simp at f1
  refine EV.seq ?_
  have := dig_len p0.n
  refine RG ?_
  simp -implicitDefEqProofs
  refine callG_fun (w_dig p0.n (wf_in (by assumption))) ?_ ?_
  ·simp
  simp -implicitDefEqProofs
  refine EV.ret ?_
  simp only [KR1, KR2, KR3, KR4]
  subst e
  refine Fin.pure0 ?_
  first | (simp; done) | (simp <;> grind)
 try simp at k1
 obtain ⟨f1, e⟩ := NO e k1
 try simp at f1
 refine EV.skip ?_
 simp only [KN1, KN2, KN3]
 refine EV.seq ?_
 have := plT_len p0.p
 refine RG ?_
 simp -implicitDefEqProofs
 refine callG_fun (w_tPlace' p0.p (by first | assumption | grind) (by first | assumption | omega)) ?_ ?_
 ·simp
 simp -implicitDefEqProofs
 refine EV.ret ?_
 simp only [KR1, KR2, KR3, KR4]
 subst e
 refine Fin.pure0 ?_
 first | (simp; done) | (simp <;> grind)
theorem tOper_eq (p0 : OperD) : tOper p0 = opT p0 := by
 unfold tOper opT
 simp
theorem w_tOper' (p0 : OperD) (hw : wfL (operC p0)) (hz : bkL (operC p0) ≤ 1050000) : QC prog 32 [.agg [.b p0.num, .i .i64 p0.n, .s p0.p.name, .ro 1 (p0.p.path.map stepC)]] [] (.s (opT p0)) [] := by rw [← tOper_eq p0]; exact w_tOper p0 hw hz
theorem _root_.List.take_append_getElem_map {A B : Type} {l : List A} {j : Nat} {x : A} {h : j < l.length} {f : A → B} (hx : l[j]'h = x) : (l.take j).map f ++ [f x] = (l.take (j + 1)).map f := by
 rw [← List.take_append_getElem h, List.map_append, hx]; rfl

def jnO_l3 (p1 : OperD → (List UInt8)) : List OperD → (List (List UInt8)) → (List (List UInt8))
 | [], a3_0 => a3_0
 | x3 :: xs3, a3_0 => jnO_l3 p1 xs3 (a3_0 ++ ([(p1 x3)] : List (List UInt8)))
def jnO (p0 : List OperD) (p1 : OperD → (List UInt8)) : (List UInt8) :=
 (bnd (jnO_l3 p1 p0 ([] : List (List UInt8))) fun (v3 : (List (List UInt8))) => (Lib.join v3 ([44, 32] : List UInt8)))
theorem w_jnO0 (p0 : List OperD) (p1 : OperD → (List UInt8)) (hl : (Lib.join (p0.map p1) [44, 32]).length ≤ 140737488355328) (hn : p0.length ≤ 1050000) (fid1 : FuncId) (H1 : ∀ (u0 : OperD), u0 ∈ p0 → QC prog fid1 [.agg [.b u0.num, .i .i64 u0.n, .s u0.p.name, .ro 1 (u0.p.path.map stepC)]] [] (.s (p1 u0)) []) : QC prog 164 [.ro 4 (p0.map operC), .fn fid1 []] [] (.s (jnO p0 p1)) [] := by
 refine QC.of_body tabOK func164 rfl (by kernel_rfl) ?_
 simp only [f164]
 generalize e : jnO p0 p1 = R
 unfold jnO at e
 refine SR ?_
 simp -implicitDefEqProofs
 refine SR ?_
 simp -implicitDefEqProofs
 refine EV.seq (SR ?_)
 simp -implicitDefEqProofs
 obtain ⟨z3, e3, e⟩ := bnd_split e
 refine EV.nrm (fun v : { v : ((List (List UInt8))) × (Nat) // z3 = v.1 ∧ (fun (v3 : (List (List UInt8))) => v3 = p0.map p1) v.1 } => (fun (v3 : (List (List UInt8))) (g3 : Nat) => (⟨[J, J, J, J, J, .sl 0 g3 0 v3.length, J, J, J, J, J, J, J, J, J, J, J, J, J, J, J, J, J], [.arr g3 1 (v3.map (fun z => [.s z]))]⟩ : St)) v.1.1 v.1.2) ?_ ?_
 ·skip
  refine EV.block ?_
  refine EV.loopB (fun x : { x : Nat × (List (List UInt8)) × Nat // x.1 ≤ p0.length ∧ jnO_l3 p1 (p0.drop x.1) x.2.1 = z3 ∧ (fun (j3 : Nat) (a3_0 : List (List UInt8)) (a3_g0 : Nat) => a3_0 = (p0.take j3).map p1) x.1 x.2.1 x.2.2 } => (fun (j3 : Nat) (a3_0 : List (List UInt8)) (a3_g0 : Nat) => (⟨[J, .fn fid1 [], J, J, J, .sl 0 a3_g0 0 a3_0.length, J, J, .ro 4 (p0.map operC), .i .i64 (p0.length : Int), .i .i64 (j3 : Int), J, J, J, J, J, J, J, J, J, J, J, J], [.arr a3_g0 1 (a3_0.map (fun z => [.s z]))]⟩ : St)) x.1.1 x.1.2.1 x.1.2.2) (fun x => p0.length - x.1.1) ⟨(0, ([] : List (List UInt8)), 0), Nat.zero_le _, e3, by first | (simp; done) | (dsimp only; rw [q3, List.take_append_getElem_map hx3])⟩ ?_ ?_
  ·skip
   refine Sub.trans (Sub.newNilE 0 5 1 (by decide) (by simp)) ?_
   try dsimp only
   try dsimp only
   refine Sub.cutF 1 (by simp) ?_ ?_ <;> simp [List.range_succ, toIdx_range, passed]
  rintro ⟨⟨j3, a3_0, a3_g0⟩, hi3, e3, q3⟩
  simp only at hi3 e3 ⊢
  try dsimp only at q3
  refine SR ?_
  simp -implicitDefEqProofs
  refine EV.seq ?_
  refine EV.room 8 (by rfl) (fun mj3 => ?_)
  simp at mj3
  refine EV.condT ?_
  simp -implicitDefEqProofs
  refine condT_intro (fun k1 => ?_) (fun k1 => ?_)
  ·try simp at k1
   have u1 : j3 < p0.length := by omega
   obtain ⟨x3, hx3⟩ : ∃ z, p0[j3] = z := ⟨_, rfl⟩
   have mx3 : x3 ∈ p0 := by rw [← hx3]; exact List.getElem_mem _
   rw [List.drop_eq_getElem_cons u1, hx3, jnO_l3] at e3
   refine EV.skip ?_
   simp only [KN1, KN2, KN3]
   refine EV.seq (EV.block (SR ?_))
   simp -implicitDefEqProofs [k1, u1, hx3]
   have r2 : roomFor (a3_0.length + 1) 16 := (by have hq := congrArg List.length q3; simp at hq; exact ⟨by omega, by omega⟩)
   refine RG ?_
   simp -implicitDefEqProofs [k1, u1, hx3, r2]
   refine callG_own [] rfl (H1 x3 (by assumption)) ?_ ?_ ?_ ?_ ?_ ?_
   ·simp
   ·simp
   ·simp
   ·simp
   ·simp
   simp -implicitDefEqProofs [k1, u1, hx3, r2, keys, callUpd, List.range_succ]
   refine RG ?_
   simp -implicitDefEqProofs [k1, u1, hx3, r2]
   have w3 : IntKind.i64.wrap ((j3 : Int) + 1) = (j3 : Int) + 1 := wrap_in _ (by omega) (by omega)
   refine ⟨⟨(j3 + 1, (a3_0 ++ ([(p1 x3)] : List (List UInt8))), (a3_g0 + 1)), by omega, e3, by first | (simp; done) | (dsimp only; rw [q3, List.take_append_getElem_map hx3])⟩, by dsimp only; omega, ?_⟩
   try dsimp only
   refine Sub.cutF 1 (by simp) ?_ ?_ <;> simp [List.range_succ, toIdx_range, passed, k1, u1, hx3, r2, w3]
  try simp at k1
  have d1 : p0.drop j3 = [] := List.drop_eq_nil_of_le (by omega)
  rw [d1, jnO_l3] at e3
  refine EV.exit ?_
  simp -implicitDefEqProofs
  refine ⟨⟨(a3_0, a3_g0), e3.symm, by (dsimp only; rw [q3, List.take_of_length_le (by omega)])⟩, ?_⟩
  try dsimp only
  refine Sub.cutF 1 (by simp) ?_ ?_ <;> simp [List.range_succ, toIdx_range, passed]
 rintro ⟨⟨v3, g3⟩, e3, p3⟩
 simp only [KN1, KN2, KN3, KN4]
 try dsimp only at p3
 replace e := bnd_on e e3
 try dsimp only at e
 refine SR ?_
 simp -implicitDefEqProofs
 refine callG_data [0] (w_join v3 ([44, 32] : List UInt8) (by first | omega | (rw [p3]; simp; omega)) (by rw [p3]; exact hl)) ?_ ?_ ?_
 ·simp [allP, allR, c0, ld1, ld0, cvOb, Pu, take_len_map, List.getD, List.range_succ]
 ·first | trivial | simp [nr, nr1, nr0]
 simp -implicitDefEqProofs
 refine EV.ret ?_
 simp only [KR1, KR2, KR3, KR4]
 subst e
 refine Fin.pure0 ?_
 first | (simp; done) | (simp <;> grind)
theorem jnO_eq (p0 : List OperD) (p1 : OperD → List UInt8) : jnO p0 p1 = Lib.join (p0.map p1) [44, 32] := by
 have h : ∀ (l : List OperD) (a : List (List UInt8)), jnO_l3 p1 l a = a ++ l.map p1 := by
  intro l
  induction l with
  | nil => intro a; simp [jnO_l3]
  | cons x l ih => intro a; simp [jnO_l3, ih]
 unfold jnO
 simp [bnd, h]

def jnF_l3 (p1 : FieldD → (List UInt8)) : List FieldD → (List (List UInt8)) → (List (List UInt8))
 | [], a3_0 => a3_0
 | x3 :: xs3, a3_0 => jnF_l3 p1 xs3 (a3_0 ++ ([(p1 x3)] : List (List UInt8)))
def jnF (p0 : List FieldD) (p1 : FieldD → (List UInt8)) : (List UInt8) :=
 (bnd (jnF_l3 p1 p0 ([] : List (List UInt8))) fun (v3 : (List (List UInt8))) => (Lib.join v3 ([44, 32] : List UInt8)))
theorem w_jnF0 (p0 : List FieldD) (p1 : FieldD → (List UInt8)) (hl : (Lib.join (p0.map p1) [44, 32]).length ≤ 140737488355328) (hn : p0.length ≤ 1050000) (fid1 : FuncId) (H1 : ∀ (u0 : FieldD), u0 ∈ p0 → QC prog fid1 [.agg [.s u0.name, .i .i64 u0.ty.k, .s u0.ty.name, .ro 3 (u0.ty.l.map tyC)]] [] (.s (p1 u0)) []) : QC prog 72 [.ro 4 (p0.map fieldC), .fn fid1 []] [] (.s (jnF p0 p1)) [] := by
 refine QC.of_body tabOK func72 rfl (by kernel_rfl) ?_
 simp only [f72]
 generalize e : jnF p0 p1 = R
 unfold jnF at e
 refine SR ?_
 simp -implicitDefEqProofs
 refine SR ?_
 simp -implicitDefEqProofs
 refine EV.seq (SR ?_)
 simp -implicitDefEqProofs
 obtain ⟨z3, e3, e⟩ := bnd_split e
 refine EV.nrm (fun v : { v : ((List (List UInt8))) × (Nat) // z3 = v.1 ∧ (fun (v3 : (List (List UInt8))) => v3 = p0.map p1) v.1 } => (fun (v3 : (List (List UInt8))) (g3 : Nat) => (⟨[J, J, J, J, J, .sl 0 g3 0 v3.length, J, J, J, J, J, J, J, J, J, J, J, J, J, J, J, J, J], [.arr g3 1 (v3.map (fun z => [.s z]))]⟩ : St)) v.1.1 v.1.2) ?_ ?_
 ·skip
  refine EV.block ?_
  refine EV.loopB (fun x : { x : Nat × (List (List UInt8)) × Nat // x.1 ≤ p0.length ∧ jnF_l3 p1 (p0.drop x.1) x.2.1 = z3 ∧ (fun (j3 : Nat) (a3_0 : List (List UInt8)) (a3_g0 : Nat) => a3_0 = (p0.take j3).map p1) x.1 x.2.1 x.2.2 } => (fun (j3 : Nat) (a3_0 : List (List UInt8)) (a3_g0 : Nat) => (⟨[J, .fn fid1 [], J, J, J, .sl 0 a3_g0 0 a3_0.length, J, J, .ro 4 (p0.map fieldC), .i .i64 (p0.length : Int), .i .i64 (j3 : Int), J, J, J, J, J, J, J, J, J, J, J, J], [.arr a3_g0 1 (a3_0.map (fun z => [.s z]))]⟩ : St)) x.1.1 x.1.2.1 x.1.2.2) (fun x => p0.length - x.1.1) ⟨(0, ([] : List (List UInt8)), 0), Nat.zero_le _, e3, by first | (simp; done) | (dsimp only; rw [q3, List.take_append_getElem_map hx3])⟩ ?_ ?_
  ·skip
   refine Sub.trans (Sub.newNilE 0 5 1 (by decide) (by simp)) ?_
   try dsimp only
   try dsimp only
   refine Sub.cutF 1 (by simp) ?_ ?_ <;> simp [List.range_succ, toIdx_range, passed]
  rintro ⟨⟨j3, a3_0, a3_g0⟩, hi3, e3, q3⟩
  simp only at hi3 e3 ⊢
  try dsimp only at q3
  refine SR ?_
  simp -implicitDefEqProofs
  refine EV.seq ?_
  refine EV.room 8 (by rfl) (fun mj3 => ?_)
  simp at mj3
  refine EV.condT ?_
  simp -implicitDefEqProofs
  refine condT_intro (fun k1 => ?_) (fun k1 => ?_)
  ·try simp at k1
   have u1 : j3 < p0.length := by omega
   obtain ⟨x3, hx3⟩ : ∃ z, p0[j3] = z := ⟨_, rfl⟩
   have mx3 : x3 ∈ p0 := by rw [← hx3]; exact List.getElem_mem _
   rw [List.drop_eq_getElem_cons u1, hx3, jnF_l3] at e3
   refine EV.skip ?_
   simp only [KN1, KN2, KN3]
   refine EV.seq (EV.block (SR ?_))
   simp -implicitDefEqProofs [k1, u1, hx3]
   have r2 : roomFor (a3_0.length + 1) 16 := (by have hq := congrArg List.length q3; simp at hq; exact ⟨by omega, by omega⟩)
   refine RG ?_
   simp -implicitDefEqProofs [k1, u1, hx3, r2]
   refine callG_own [] rfl (H1 x3 (by assumption)) ?_ ?_ ?_ ?_ ?_ ?_
   ·simp
   ·simp
   ·simp
   ·simp
   ·simp
   simp -implicitDefEqProofs [k1, u1, hx3, r2, keys, callUpd, List.range_succ]
   refine RG ?_
   simp -implicitDefEqProofs [k1, u1, hx3, r2]
   have w3 : IntKind.i64.wrap ((j3 : Int) + 1) = (j3 : Int) + 1 := wrap_in _ (by omega) (by omega)
   refine ⟨⟨(j3 + 1, (a3_0 ++ ([(p1 x3)] : List (List UInt8))), (a3_g0 + 1)), by omega, e3, by first | (simp; done) | (dsimp only; rw [q3, List.take_append_getElem_map hx3])⟩, by dsimp only; omega, ?_⟩
   try dsimp only
   refine Sub.cutF 1 (by simp) ?_ ?_ <;> simp [List.range_succ, toIdx_range, passed, k1, u1, hx3, r2, w3]
  try simp at k1
  have d1 : p0.drop j3 = [] := List.drop_eq_nil_of_le (by omega)
  rw [d1, jnF_l3] at e3
  refine EV.exit ?_
  simp -implicitDefEqProofs
  refine ⟨⟨(a3_0, a3_g0), e3.symm, by (dsimp only; rw [q3, List.take_of_length_le (by omega)])⟩, ?_⟩
  try dsimp only
  refine Sub.cutF 1 (by simp) ?_ ?_ <;> simp [List.range_succ, toIdx_range, passed]
 rintro ⟨⟨v3, g3⟩, e3, p3⟩
 simp only [KN1, KN2, KN3, KN4]
 try dsimp only at p3
 replace e := bnd_on e e3
 try dsimp only at e
 refine SR ?_
 simp -implicitDefEqProofs
 refine callG_data [0] (w_join v3 ([44, 32] : List UInt8) (by first | omega | (rw [p3]; simp; omega)) (by rw [p3]; exact hl)) ?_ ?_ ?_
 ·simp [allP, allR, c0, ld1, ld0, cvOb, Pu, take_len_map, List.getD, List.range_succ]
 ·first | trivial | simp [nr, nr1, nr0]
 simp -implicitDefEqProofs
 refine EV.ret ?_
 simp only [KR1, KR2, KR3, KR4]
 subst e
 refine Fin.pure0 ?_
 first | (simp; done) | (simp <;> grind)
theorem jnF_eq (p0 : List FieldD) (p1 : FieldD → List UInt8) : jnF p0 p1 = Lib.join (p0.map p1) [44, 32] := by
 have h : ∀ (l : List FieldD) (a : List (List UInt8)), jnF_l3 p1 l a = a ++ l.map p1 := by
  intro l
  induction l with
  | nil => intro a; simp [jnF_l3]
  | cons x l ih => intro a; simp [jnF_l3, ih]
 unfold jnF
 simp [bnd, h]

def jnV_l3 (p1 : VariantD → (List UInt8)) : List VariantD → (List (List UInt8)) → (List (List UInt8))
 | [], a3_0 => a3_0
 | x3 :: xs3, a3_0 => jnV_l3 p1 xs3 (a3_0 ++ ([(p1 x3)] : List (List UInt8)))
def jnV (p0 : List VariantD) (p1 : VariantD → (List UInt8)) : (List UInt8) :=
 (bnd (jnV_l3 p1 p0 ([] : List (List UInt8))) fun (v3 : (List (List UInt8))) => (Lib.join v3 ([44, 32] : List UInt8)))
theorem w_jnV0 (p0 : List VariantD) (p1 : VariantD → (List UInt8)) (hl : (Lib.join (p0.map p1) [44, 32]).length ≤ 140737488355328) (hn : p0.length ≤ 1050000) (fid1 : FuncId) (H1 : ∀ (u0 : VariantD), u0 ∈ p0 → QC prog fid1 [.agg [.s u0.name, .i .i64 u0.ty.k, .s u0.ty.name, .ro 3 (u0.ty.l.map tyC)]] [] (.s (p1 u0)) []) : QC prog 74 [.ro 4 (p0.map variantC), .fn fid1 []] [] (.s (jnV p0 p1)) [] := by
 refine QC.of_body tabOK func74 rfl (by kernel_rfl) ?_
 simp only [f74]
 generalize e : jnV p0 p1 = R
 unfold jnV at e
 refine SR ?_
 simp -implicitDefEqProofs
 refine SR ?_
 simp -implicitDefEqProofs
 refine EV.seq (SR ?_)
 simp -implicitDefEqProofs
 obtain ⟨z3, e3, e⟩ := bnd_split e
 refine EV.nrm (fun v : { v : ((List (List UInt8))) × (Nat) // z3 = v.1 ∧ (fun (v3 : (List (List UInt8))) => v3 = p0.map p1) v.1 } => (fun (v3 : (List (List UInt8))) (g3 : Nat) => (⟨[J, J, J, J, J, .sl 0 g3 0 v3.length, J, J, J, J, J, J, J, J, J, J, J, J, J, J, J, J, J], [.arr g3 1 (v3.map (fun z => [.s z]))]⟩ : St)) v.1.1 v.1.2) ?_ ?_
 ·skip
  refine EV.block ?_
  refine EV.loopB (fun x : { x : Nat × (List (List UInt8)) × Nat // x.1 ≤ p0.length ∧ jnV_l3 p1 (p0.drop x.1) x.2.1 = z3 ∧ (fun (j3 : Nat) (a3_0 : List (List UInt8)) (a3_g0 : Nat) => a3_0 = (p0.take j3).map p1) x.1 x.2.1 x.2.2 } => (fun (j3 : Nat) (a3_0 : List (List UInt8)) (a3_g0 : Nat) => (⟨[J, .fn fid1 [], J, J, J, .sl 0 a3_g0 0 a3_0.length, J, J, .ro 4 (p0.map variantC), .i .i64 (p0.length : Int), .i .i64 (j3 : Int), J, J, J, J, J, J, J, J, J, J, J, J], [.arr a3_g0 1 (a3_0.map (fun z => [.s z]))]⟩ : St)) x.1.1 x.1.2.1 x.1.2.2) (fun x => p0.length - x.1.1) ⟨(0, ([] : List (List UInt8)), 0), Nat.zero_le _, e3, by first | (simp; done) | (dsimp only; rw [q3, List.take_append_getElem_map hx3])⟩ ?_ ?_
  ·skip
   refine Sub.trans (Sub.newNilE 0 5 1 (by decide) (by simp)) ?_
   try dsimp only
   try dsimp only
   refine Sub.cutF 1 (by simp) ?_ ?_ <;> simp [List.range_succ, toIdx_range, passed]
  rintro ⟨⟨j3, a3_0, a3_g0⟩, hi3, e3, q3⟩
  simp only at hi3 e3 ⊢
  try dsimp only at q3
  refine SR ?_
  simp -implicitDefEqProofs
  refine EV.seq ?_
  refine EV.room 8 (by rfl) (fun mj3 => ?_)
  simp at mj3
  refine EV.condT ?_
  simp -implicitDefEqProofs
  refine condT_intro (fun k1 => ?_) (fun k1 => ?_)
  ·try simp at k1
   have u1 : j3 < p0.length := by omega
   obtain ⟨x3, hx3⟩ : ∃ z, p0[j3] = z := ⟨_, rfl⟩
   have mx3 : x3 ∈ p0 := by rw [← hx3]; exact List.getElem_mem _
   rw [List.drop_eq_getElem_cons u1, hx3, jnV_l3] at e3
   refine EV.skip ?_
   simp only [KN1, KN2, KN3]
   refine EV.seq (EV.block (SR ?_))
   simp -implicitDefEqProofs [k1, u1, hx3]
   have r2 : roomFor (a3_0.length + 1) 16 := (by have hq := congrArg List.length q3; simp at hq; exact ⟨by omega, by omega⟩)
   refine RG ?_
   simp -implicitDefEqProofs [k1, u1, hx3, r2]
   refine callG_own [] rfl (H1 x3 (by assumption)) ?_ ?_ ?_ ?_ ?_ ?_
   ·simp
   ·simp
   ·simp
   ·simp
   ·simp
   simp -implicitDefEqProofs [k1, u1, hx3, r2, keys, callUpd, List.range_succ]
   refine RG ?_
   simp -implicitDefEqProofs [k1, u1, hx3, r2]
   have w3 : IntKind.i64.wrap ((j3 : Int) + 1) = (j3 : Int) + 1 := wrap_in _ (by omega) (by omega)
   refine ⟨⟨(j3 + 1, (a3_0 ++ ([(p1 x3)] : List (List UInt8))), (a3_g0 + 1)), by omega, e3, by first | (simp; done) | (dsimp only; rw [q3, List.take_append_getElem_map hx3])⟩, by dsimp only; omega, ?_⟩
   try dsimp only
   refine Sub.cutF 1 (by simp) ?_ ?_ <;> simp [List.range_succ, toIdx_range, passed, k1, u1, hx3, r2, w3]
  try simp at k1
  have d1 : p0.drop j3 = [] := List.drop_eq_nil_of_le (by omega)
  rw [d1, jnV_l3] at e3
  refine EV.exit ?_
  simp -implicitDefEqProofs
  refine ⟨⟨(a3_0, a3_g0), e3.symm, by (dsimp only; rw [q3, List.take_of_length_le (by omega)])⟩, ?_⟩
  try dsimp only
  refine Sub.cutF 1 (by simp) ?_ ?_ <;> simp [List.range_succ, toIdx_range, passed]
 rintro ⟨⟨v3, g3⟩, e3, p3⟩
 simp only [KN1, KN2, KN3, KN4]
 try dsimp only at p3
 replace e := bnd_on e e3
 try dsimp only at e
 refine SR ?_
 simp -implicitDefEqProofs
 refine callG_data [0] (w_join v3 ([44, 32] : List UInt8) (by first | omega | (rw [p3]; simp; omega)) (by rw [p3]; exact hl)) ?_ ?_ ?_
 ·simp [allP, allR, c0, ld1, ld0, cvOb, Pu, take_len_map, List.getD, List.range_succ]
 ·first | trivial | simp [nr, nr1, nr0]
 simp -implicitDefEqProofs
 refine EV.ret ?_
 simp only [KR1, KR2, KR3, KR4]
 subst e
 refine Fin.pure0 ?_
 first | (simp; done) | (simp <;> grind)
theorem jnV_eq (p0 : List VariantD) (p1 : VariantD → List UInt8) : jnV p0 p1 = Lib.join (p0.map p1) [44, 32] := by
 have h : ∀ (l : List VariantD) (a : List (List UInt8)), jnV_l3 p1 l a = a ++ l.map p1 := by
  intro l
  induction l with
  | nil => intro a; simp [jnV_l3]
  | cons x l ih => intro a; simp [jnV_l3, ih]
 unfold jnV
 simp [bnd, h]
theorem len_bkR {A : Type} (e : A → List V) : ∀ l : List A, (∀ x ∈ l, 1 ≤ bkL (e x)) → l.length ≤ bkR (l.map e)
 | [], _ => by simp
 | x :: l, h => by
  have h1 := len_bkR e l fun y hy => h y (List.mem_cons_of_mem _ hy)
  have h2 := h x List.mem_cons_self
  simp only [List.map_cons, bkR, List.length_cons]
  omega
theorem opT_ok (x : OperD) : (opT x).length + 2 ≤ 7 * bkL (operC x) := by
 have := opT_len x
 simp only [operC_eq, bkL, bkV] at this ⊢
 omega

def tField (p0 : FieldD) : (List UInt8) :=
 ((p0.name ++ ([58, 32] : List UInt8)) ++ (tyT p0.ty))
theorem w_tField (p0 : FieldD) (hw : wfL (fieldC p0)) (hz : bkL (fieldC p0) ≤ 1050000) : QC prog 73 [.agg [.s p0.name, .i .i64 p0.ty.k, .s p0.ty.name, .ro 3 (p0.ty.l.map tyC)]] [] (.s (tField p0)) [] := by
 refine QC.of_body tabOK func73 rfl (by kernel_rfl) ?_
 simp only [f73]
 generalize e : tField p0 = R
 unfold tField at e
 have hb := hz
 simp only [fieldC_eq, bkL, bkV] at hb
 have hn := tyN_eq p0.ty
 refine SR ?_
 simp -implicitDefEqProofs
 refine EV.seq ?_
 have ct1 : (p0.name).length + (([58, 32] : List UInt8)).length ≤ 9223372036854775807 := by ((try dsimp only); (try simp only [List.drop_zero, List.length_append, List.length_cons, List.length_nil]); omega)
 try simp at ct1
 have := tyT_len p0.ty
 have ct2 : ((p0.name ++ ([58, 32] : List UInt8))).length + ((tyT p0.ty)).length ≤ 9223372036854775807 := by ((try dsimp only); (try simp only [List.drop_zero, List.length_append, List.length_cons, List.length_nil]); omega)
 try simp at ct2
 refine EV.drawG tabOK mixedOK ?_
 simp -implicitDefEqProofs [ct1, ct2]
 refine callG_fun (w_tType 1050000 p0.ty (by first | assumption | omega) (Nat.le_refl _)) ?_ ?_
 ·first | (simp; done) | (simp [ct1, ct2]; done)
 simp -implicitDefEqProofs [ct1, ct2]
 refine And.intro ?_ ?_
 ·first | decide +kernel | (simp -implicitDefEqProofs; decide +kernel) | (split <;> decide +kernel)
 try simp -implicitDefEqProofs
 refine EV.ret ?_
 simp only [KR1, KR2, KR3, KR4]
 subst e
 refine Fin.pure0 ?_
 first | (simp; done) | (simp <;> grind)
theorem tField_eq (p0 : FieldD) : tField p0 = fldT p0 := by
 rfl
theorem w_tField' (p0 : FieldD) (hw : wfL (fieldC p0)) (hz : bkL (fieldC p0) ≤ 1050000) : QC prog 73 [.agg [.s p0.name, .i .i64 p0.ty.k, .s p0.ty.name, .ro 3 (p0.ty.l.map tyC)]] [] (.s (fldT p0)) [] := by rw [← tField_eq p0]; exact w_tField p0 hw hz

def tVariant (p0 : VariantD) : (List UInt8) :=
 (if p0.ty.k = 0 then p0.name else (((p0.name ++ ([40] : List UInt8)) ++ (tyT p0.ty)) ++ ([41] : List UInt8)))
theorem w_tVariant (p0 : VariantD) (hw : wfL (variantC p0)) (hz : bkL (variantC p0) ≤ 1050000) : QC prog 75 [.agg [.s p0.name, .i .i64 p0.ty.k, .s p0.ty.name, .ro 3 (p0.ty.l.map tyC)]] [] (.s (tVariant p0)) [] := by
 refine QC.of_body tabOK func75 rfl (by kernel_rfl) ?_
 simp only [f75]
 generalize e : tVariant p0 = R
 unfold tVariant at e
 have hb := hz
 simp only [variantC_eq, bkL, bkV] at hb
 have hn := tyN_eq p0.ty
 refine SR ?_
 simp -implicitDefEqProofs
 refine EV.seq (SR ?_)
 simp -implicitDefEqProofs
 refine EV.condT ?_
 simp -implicitDefEqProofs
 refine condT_intro (fun k1 => ?_) (fun k1 => ?_)
 ·try simp at k1
  obtain ⟨f1, e⟩ := PO e k1
  try simp at f1
  refine SR ?_
  simp -implicitDefEqProofs
  refine EV.ret ?_
  simp only [KR1, KR2, KR3, KR4]
  subst e
  refine Fin.pure0 ?_
  first | (simp; done) | (simp <;> grind)
 try simp at k1
 obtain ⟨f1, e⟩ := NO e k1
 try simp at f1
 refine EV.skip ?_
 simp only [KN1, KN2, KN3]
 refine EV.seq ?_
 have ct2 : (p0.name).length + (([40] : List UInt8)).length ≤ 9223372036854775807 := by ((try dsimp only); (try simp only [List.drop_zero, List.length_append, List.length_cons, List.length_nil]); omega)
 try simp at ct2
 have := tyT_len p0.ty
 have ct3 : ((p0.name ++ ([40] : List UInt8))).length + ((tyT p0.ty)).length ≤ 9223372036854775807 := by ((try dsimp only); (try simp only [List.drop_zero, List.length_append, List.length_cons, List.length_nil]); omega)
 try simp at ct3
 have ct4 : (((p0.name ++ ([40] : List UInt8)) ++ (tyT p0.ty))).length + (([41] : List UInt8)).length ≤ 9223372036854775807 := by ((try dsimp only); (try simp only [List.drop_zero, List.length_append, List.length_cons, List.length_nil]); omega)
 try simp at ct4
 refine EV.drawG tabOK mixedOK ?_
 simp -implicitDefEqProofs [ct2, ct3, ct4]
 refine callG_fun (w_tType 1050000 p0.ty (by first | assumption | omega) (Nat.le_refl _)) ?_ ?_
 ·first | (simp; done) | (simp [ct2, ct3, ct4]; done)
 simp -implicitDefEqProofs [ct2, ct3, ct4]
 refine And.intro ?_ ?_
 ·first | decide +kernel | (simp -implicitDefEqProofs; decide +kernel) | (split <;> decide +kernel)
 try simp -implicitDefEqProofs
 refine EV.ret ?_
 simp only [KR1, KR2, KR3, KR4]
 subst e
 refine Fin.pure0 ?_
 first | (simp; done) | (simp <;> grind)
theorem tVariant_eq (p0 : VariantD) : tVariant p0 = varT p0 := by
 rfl
theorem w_tVariant' (p0 : VariantD) (hw : wfL (variantC p0)) (hz : bkL (variantC p0) ≤ 1050000) : QC prog 75 [.agg [.s p0.name, .i .i64 p0.ty.k, .s p0.ty.name, .ro 3 (p0.ty.l.map tyC)]] [] (.s (varT p0)) [] := by rw [← tVariant_eq p0]; exact w_tVariant p0 hw hz

theorem w_jnO' (l : List OperD) (hw : wfR (l.map operC)) (hz : bkR (l.map operC) ≤ 1050000) : QC prog 164 [.ro 4 (l.map operC), .fn 32 []] [] (.s (joinT opT l)) [] := by
 have h1 := joinT_len opT operC 7 l fun x _ => opT_ok x
 have h2 := len_bkR operC l fun x _ => by simp only [operC_eq, bkL, bkV]; omega
 have h := w_jnO0 l opT (by show (joinT opT l).length ≤ _; omega) (by omega) 32 fun u hu => w_tOper' u ((wfR_map _ _).1 hw u hu) (by have := bkR_in (f := operC) hu; omega)
 rw [jnO_eq] at h
 exact h

theorem w_jnF' (l : List FieldD) (hw : wfR (l.map fieldC)) (hz : bkR (l.map fieldC) ≤ 1050000) : QC prog 72 [.ro 4 (l.map fieldC), .fn 73 []] [] (.s (joinT fldT l)) [] := by
 have h1 := joinT_len fldT fieldC 6 l fun x _ => fldT_len x
 have h2 := len_bkR fieldC l fun x _ => by simp only [fieldC_eq, bkL, bkV]; omega
 have h := w_jnF0 l fldT (by show (joinT fldT l).length ≤ _; omega) (by omega) 73 fun u hu => w_tField' u ((wfR_map _ _).1 hw u hu) (by have := bkR_in (f := fieldC) hu; omega)
 rw [jnF_eq] at h
 exact h

theorem w_jnV' (l : List VariantD) (hw : wfR (l.map variantC)) (hz : bkR (l.map variantC) ≤ 1050000) : QC prog 74 [.ro 4 (l.map variantC), .fn 75 []] [] (.s (joinT varT l)) [] := by
 have h1 := joinT_len varT variantC 6 l fun x _ => varT_len x
 have h2 := len_bkR variantC l fun x _ => by simp only [variantC_eq, bkL, bkV]; omega
 have h := w_jnV0 l varT (by show (joinT varT l).length ≤ _; omega) (by omega) 75 fun u hu => w_tVariant' u ((wfR_map _ _).1 hw u hu) (by have := bkR_in (f := variantC) hu; omega)
 rw [jnV_eq] at h
 exact h

def tArgs (p0 : List OperD) : (List UInt8) :=
 ((([40] : List UInt8) ++ (joinT opT p0)) ++ ([41] : List UInt8))
theorem w_tArgs (p0 : List OperD) (hw : wfR (p0.map operC)) (hz : bkR (p0.map operC) ≤ 1050000) : QC prog 99 [.ro 4 (p0.map operC)] [] (.s (tArgs p0)) [] := by
 refine QC.of_body tabOK func99 rfl (by kernel_rfl) ?_
 simp only [f99]
 generalize e : tArgs p0 = R
 unfold tArgs at e
 refine SR ?_
 simp -implicitDefEqProofs
 refine EV.seq ?_
 have := joinT_len opT operC 7 p0 fun x _ => opT_ok x
 have ct1 : (([40] : List UInt8)).length + ((joinT opT p0)).length ≤ 9223372036854775807 := by ((try dsimp only); (try simp only [List.drop_zero, List.length_append, List.length_cons, List.length_nil]); omega)
 try simp at ct1
 have ct2 : ((([40] : List UInt8) ++ (joinT opT p0))).length + (([41] : List UInt8)).length ≤ 9223372036854775807 := by ((try dsimp only); (try simp only [List.drop_zero, List.length_append, List.length_cons, List.length_nil]); omega)
 try simp at ct2
 refine RG ?_
 simp -implicitDefEqProofs [ct1, ct2]
 refine callG_fun (w_jnO' p0 (by first | assumption | grind) (by first | assumption | omega)) ?_ ?_
 ·first | (simp; done) | (simp [ct1, ct2]; done)
 simp -implicitDefEqProofs [ct1, ct2]
 refine EV.ret ?_
 simp only [KR1, KR2, KR3, KR4]
 subst e
 refine Fin.pure0 ?_
 first | (simp; done) | (simp <;> grind)

theorem w_tArgs' (p0 : List OperD) (hw : wfR (p0.map operC)) (hz : bkR (p0.map operC) ≤ 1050000) : QC prog 99 [.ro 4 (p0.map operC)] [] (.s (argT p0)) [] := w_tArgs p0 hw hz

def tOperAt (p0 : List OperD) (p1 : Int) : (List UInt8) :=
 (if (p0.length : Int) ≤ p1 then ([63] : List UInt8) else (bnd (p0.getD ((p1).toNat) default) fun (y3_2 : OperD) => (opT y3_2)))
theorem w_tOperAt (p0 : List OperD) (p1 : Int) (hw : wfR (p0.map operC)) (hz : bkR (p0.map operC) ≤ 1050000) (hi : 0 ≤ p1) : QC prog 98 [.ro 4 (p0.map operC), .i .i64 p1] [] (.s (tOperAt p0 p1)) [] := by
 refine QC.of_body tabOK func98 rfl (by kernel_rfl) ?_
 simp only [f98]
 generalize e : tOperAt p0 p1 = R
 unfold tOperAt at e
 refine SR ?_
 simp -implicitDefEqProofs
 refine EV.seq (SR ?_)
 simp -implicitDefEqProofs
 refine EV.condT ?_
 simp -implicitDefEqProofs
 refine condT_intro (fun k1 => ?_) (fun k1 => ?_)
 ·try simp at k1
  obtain ⟨f1, e⟩ := PO e k1
  try simp at f1
  refine SR ?_
  simp -implicitDefEqProofs
  refine EV.ret ?_
  simp only [KR1, KR2, KR3, KR4]
  subst e
  refine Fin.pure0 ?_
  first | (simp; done) | (simp <;> grind)
 try simp at k1
 obtain ⟨f1, e⟩ := NO e k1
 try simp at f1
 refine EV.skip ?_
 simp only [KN1, KN2, KN3]
 refine EV.seq ?_
 obtain ⟨y3_2, gy3_2⟩ : ∃ z, (p0.getD ((p1).toNat) default) = z := ⟨_, rfl⟩
 replace e := bnd_on e gy3_2
 try dsimp only at e
 have b2 : 0 ≤ p1 ∧ p1 < (p0.length : Int) := by omega
 have c2 : (p1).toNat < p0.length := by omega
 have hy3_2 : p0[(p1).toNat] = y3_2 := by rw [← gy3_2, List.getD_eq_getElem?_getD, List.getElem?_eq_getElem c2]; rfl
 have my3_2 : y3_2 ∈ p0 := by rw [← hy3_2]; exact List.getElem_mem _
 have := opT_len y3_2
 refine RG ?_
 simp -implicitDefEqProofs [b2, c2, hy3_2]
 refine callG_fun (w_tOper' y3_2 ((wfR_map _ _).1 hw _ (by assumption)) (by have := bkR_in (f := operC) (by assumption); omega)) ?_ ?_
 ·first | (simp; done) | (simp [b2, c2, hy3_2]; done)
 simp -implicitDefEqProofs [b2, c2, hy3_2]
 refine EV.ret ?_
 simp only [KR1, KR2, KR3, KR4]
 subst e
 refine Fin.pure0 ?_
 first | (simp; done) | (simp <;> grind)

theorem w_tOperAt' (p0 : List OperD) (p1 : Int) (hw : wfR (p0.map operC)) (hz : bkR (p0.map operC) ≤ 1050000) (hi : 0 ≤ p1) : QC prog 98 [.ro 4 (p0.map operC), .i .i64 p1] [] (.s (opAt p0 p1)) [] := w_tOperAt p0 p1 hw hz hi

def tBetween (p0 : Int) : (List UInt8) :=
 (if p0 = 1 then ([32, 43, 32] : List UInt8) else (if p0 = 2 then ([32, 45, 32] : List UInt8) else (if p0 = 3 then ([32, 42, 32] : List UInt8) else (if p0 = 4 then ([32, 60, 32] : List UInt8) else (if p0 = 5 then ([32, 61, 61, 32] : List UInt8) else ([] : List UInt8))))))
theorem w_tBetween (p0 : Int)  : QC prog 97 [.i .i64 p0] [] (.s (tBetween p0)) [] := by
 refine QC.of_body tabOK func97 rfl (by kernel_rfl) ?_
 simp only [f97]
 generalize e : tBetween p0 = R
 unfold tBetween at e
 refine SR ?_
 simp -implicitDefEqProofs
 refine EV.seq (SR ?_)
 simp -implicitDefEqProofs
 refine EV.block (SR ?_)
 simp -implicitDefEqProofs
 refine EV.condT ?_
 simp -implicitDefEqProofs
 refine condT_intro (fun k1 => ?_) (fun k1 => ?_)
 ·try simp at k1
  obtain ⟨f1, e⟩ := PO e k1
  try simp at f1
  refine SR ?_
  simp -implicitDefEqProofs
  refine EV.ret ?_
  simp only [KR1, KR2, KR3, KR4]
  subst e
  refine Fin.pure0 ?_
  first | (simp; done) | (simp <;> grind)
 try simp at k1
 obtain ⟨f1, e⟩ := NO e k1
 try simp at f1
 refine SR ?_
 simp -implicitDefEqProofs
 refine EV.condT ?_
 simp -implicitDefEqProofs
 refine condT_intro (fun k2 => ?_) (fun k2 => ?_)
 ·try simp at k2
  obtain ⟨f2, e⟩ := PO e k2
  try simp at f2
  refine SR ?_
  simp -implicitDefEqProofs
  refine EV.ret ?_
  simp only [KR1, KR2, KR3, KR4]
  subst e
  refine Fin.pure0 ?_
  first | (simp; done) | (simp <;> grind)
 try simp at k2
 obtain ⟨f2, e⟩ := NO e k2
 try simp at f2
 refine SR ?_
 simp -implicitDefEqProofs
 refine EV.condT ?_
 simp -implicitDefEqProofs
 refine condT_intro (fun k3 => ?_) (fun k3 => ?_)
 ·try simp at k3
  obtain ⟨f3, e⟩ := PO e k3
  try simp at f3
  refine SR ?_
  simp -implicitDefEqProofs
  refine EV.ret ?_
  simp only [KR1, KR2, KR3, KR4]
  subst e
  refine Fin.pure0 ?_
  first | (simp; done) | (simp <;> grind)
 try simp at k3
 obtain ⟨f3, e⟩ := NO e k3
 try simp at f3
 refine SR ?_
 simp -implicitDefEqProofs
 refine EV.condT ?_
 simp -implicitDefEqProofs
 refine condT_intro (fun k4 => ?_) (fun k4 => ?_)
 ·try simp at k4
  obtain ⟨f4, e⟩ := PO e k4
  try simp at f4
  refine SR ?_
  simp -implicitDefEqProofs
  refine EV.ret ?_
  simp only [KR1, KR2, KR3, KR4]
  subst e
  refine Fin.pure0 ?_
  first | (simp; done) | (simp <;> grind)
 try simp at k4
 obtain ⟨f4, e⟩ := NO e k4
 try simp at f4
 refine SR ?_
 simp -implicitDefEqProofs
 refine EV.condT ?_
 simp -implicitDefEqProofs
 refine condT_intro (fun k5 => ?_) (fun k5 => ?_)
 ·try simp at k5
  obtain ⟨f5, e⟩ := PO e k5
  try simp at f5
  refine SR ?_
  simp -implicitDefEqProofs
  refine EV.ret ?_
  simp only [KR1, KR2, KR3, KR4]
  subst e
  refine Fin.pure0 ?_
  first | (simp; done) | (simp <;> grind)
 try simp at k5
 obtain ⟨f5, e⟩ := NO e k5
 try simp at f5
 refine EV.skip ?_
 simp only [KN1, KN2, KN3]
 refine SR ?_
 simp -implicitDefEqProofs
 refine EV.ret ?_
 simp only [KR1, KR2, KR3, KR4]
 subst e
 refine Fin.pure0 ?_
 first | (simp; done) | (simp <;> grind)

theorem w_tBetween' (p0 : Int) : QC prog 97 [.i .i64 p0] [] (.s (signT p0)) [] := w_tBetween p0

def tBraced (p0 : List UInt8) : (List UInt8) :=
 (if p0 = ([] : List UInt8) then ([123, 125] : List UInt8) else ((([123, 32] : List UInt8) ++ p0) ++ ([32, 125] : List UInt8)))
theorem w_tBraced (p0 : List UInt8) (hl : p0.length ≤ 100000000000000) : QC prog 71 [.s p0] [] (.s (tBraced p0)) [] := by
 refine QC.of_body tabOK func71 rfl (by kernel_rfl) ?_
 simp only [f71]
 generalize e : tBraced p0 = R
 unfold tBraced at e
 refine SR ?_
 simp -implicitDefEqProofs
 refine EV.seq (SR ?_)
 simp -implicitDefEqProofs
 refine EV.condT ?_
 simp -implicitDefEqProofs
 refine condT_intro (fun k1 => ?_) (fun k1 => ?_)
 ·try simp at k1
  obtain ⟨f1, e⟩ := PO e k1
  try simp at f1
  refine SR ?_
  simp -implicitDefEqProofs
  refine EV.ret ?_
  simp only [KR1, KR2, KR3, KR4]
  subst e
  refine Fin.pure0 ?_
  first | (simp; done) | (simp <;> grind)
 try simp at k1
 obtain ⟨f1, e⟩ := NO e k1
 try simp at f1
 refine EV.skip ?_
 simp only [KN1, KN2, KN3]
 refine EV.seq ?_
 have ct2 : (([123, 32] : List UInt8)).length + (p0).length ≤ 9223372036854775807 := by (first | omega | (simp; omega))
 try simp at ct2
 have ct3 : ((([123, 32] : List UInt8) ++ p0)).length + (([32, 125] : List UInt8)).length ≤ 9223372036854775807 := by (first | omega | (simp; omega))
 try simp at ct3
 refine RG ?_
 simp -implicitDefEqProofs [ct2, ct3]
 refine EV.ret ?_
 simp only [KR1, KR2, KR3, KR4]
 subst e
 refine Fin.pure0 ?_
 first | (simp; done) | (simp <;> grind)

theorem w_tBraced' (p0 : List UInt8) (hl : p0.length ≤ 100000000000000) : QC prog 71 [.s p0] [] (.s (brT p0)) [] := w_tBraced p0 hl

def tSet (p0 : RvD) : (List UInt8) :=
 (if ¬ ((signT p0.k) = ([] : List UInt8)) then (((opAt p0.ops 0) ++ (signT p0.k)) ++ (opAt p0.ops 1)) else (if p0.k = 0 then (opAt p0.ops 0) else (if p0.k = 6 then (([38] : List UInt8) ++ (plT p0.p)) else (if p0.k = 7 then (([38, 109, 117, 116, 32] : List UInt8) ++ (plT p0.p)) else (if p0.k = 8 then (([98, 111, 120, 32] : List UInt8) ++ (opAt p0.ops 0)) else (if p0.k = 9 then (([117, 110, 98, 111, 120, 32] : List UInt8) ++ (plT p0.p)) else (if p0.k = 13 then (([97, 119, 97, 105, 116, 32] : List UInt8) ++ (plT p0.p)) else (if p0.k = 14 then (([112, 111, 108, 108, 32] : List UInt8) ++ (plT p0.p)) else (if p0.k = 15 then (([119, 97, 105, 116, 32] : List UInt8) ++ (opAt p0.ops 0)) else (if p0.k = 10 then (p0.name ++ (argT p0.ops)) else (if p0.k = 12 then ((([115, 116, 97, 114, 116, 32] : List UInt8) ++ p0.name) ++ (argT p0.ops)) else (if p0.k = 11 then (if 0 < (p0.ops.length : Int) then (((p0.name ++ ([58, 58] : List UInt8)) ++ p0.variant) ++ (argT p0.ops)) else ((p0.name ++ ([58, 58] : List UInt8)) ++ p0.variant)) else ([63] : List UInt8)))))))))))))
theorem w_tSet (p0 : RvD) (hw : wfL (rvC p0)) (hz : bkL (rvC p0) ≤ 1050000) : QC prog 30 [.agg [.i .i64 p0.k, .ro 4 (p0.ops.map operC), .s p0.p.name, .ro 1 (p0.p.path.map stepC), .s p0.name, .s p0.variant]] [] (.s (tSet p0)) [] := by
 refine QC.of_body tabOK func30 rfl (by kernel_rfl) ?_
 simp only [f30]
 generalize e : tSet p0 = R
 unfold tSet at e
 have hb := hz
 simp only [rvC_eq, bkL, bkV] at hb
 simp only [rvC_eq, wfL, wfV] at hw
 have hw1 := hw.2.1
 have hz1 : bkL (placeC p0.p) ≤ 1050000 := by simp only [placeC_eq, bkL, bkV]; omega
 have hw2 : wfL (placeC p0.p) := by simp only [placeC_eq, wfL, wfV]; exact ⟨trivial, hw.2.2.2.1, trivial⟩
 have hz2 : bkR (p0.ops.map operC) ≤ 1050000 := by omega
 have hq := placeC_eq p0.p
 refine SR ?_
 simp -implicitDefEqProofs
 refine EV.seq (EV.seq ?_)
 have := signT_len p0.k
 refine RG ?_
 simp -implicitDefEqProofs
 refine callG_fun (w_tBetween' p0.k) ?_ ?_
 ·simp
 simp -implicitDefEqProofs
 refine SR ?_
 simp -implicitDefEqProofs
 refine EV.condT ?_
 simp -implicitDefEqProofs
 refine condT_intro (fun k1 => ?_) (fun k1 => ?_)
 ·try simp at k1
  obtain ⟨f1, e⟩ := PO e k1
  try simp at f1
  refine EV.seq ?_
  have := opAt_len p0.ops 0 (by decide)
  have ct2 : ((opAt p0.ops 0)).length + ((signT p0.k)).length ≤ 9223372036854775807 := by ((try dsimp only); (try simp only [List.drop_zero, List.length_append, List.length_cons, List.length_nil]); omega)
  try simp at ct2
  have := opAt_len p0.ops 1 (by decide)
  have ct3 : (((opAt p0.ops 0) ++ (signT p0.k))).length + ((opAt p0.ops 1)).length ≤ 9223372036854775807 := by ((try dsimp only); (try simp only [List.drop_zero, List.length_append, List.length_cons, List.length_nil]); omega)
  try simp at ct3
  refine EV.drawG tabOK mixedOK ?_
  simp -implicitDefEqProofs [ct2, ct3]
  refine callG_fun (w_tOperAt' p0.ops 0 (by first | assumption | grind) (by first | assumption | omega) (by decide)) ?_ ?_
  ·first | (simp; done) | (simp [ct2, ct3]; done)
  simp -implicitDefEqProofs [ct2, ct3]
  refine callG_fun (w_tOperAt' p0.ops 1 (by first | assumption | grind) (by first | assumption | omega) (by decide)) ?_ ?_
  ·first | (simp; done) | (simp [ct2, ct3]; done)
  simp -implicitDefEqProofs [ct2, ct3]
  refine And.intro ?_ ?_
  ·first | decide +kernel | (simp -implicitDefEqProofs; decide +kernel) | (split <;> decide +kernel)
  try simp -implicitDefEqProofs
  refine EV.ret ?_
  simp only [KR1, KR2, KR3, KR4]
  subst e
  refine Fin.pure0 ?_
  first | (simp; done) | (simp <;> grind)
 try simp at k1
 obtain ⟨f1, e⟩ := NO e k1
 try simp at f1
 refine EV.skip ?_
 simp only [KN1, KN2, KN3]
 refine EV.seq (SR ?_)
 simp -implicitDefEqProofs
 refine EV.block (SR ?_)
 simp -implicitDefEqProofs
 refine EV.condT ?_
 simp -implicitDefEqProofs
 refine condT_intro (fun k4 => ?_) (fun k4 => ?_)
 ·try simp at k4
  obtain ⟨f4, e⟩ := PO e k4
  try simp at f4
  refine EV.seq ?_
  have := opAt_len p0.ops 0 (by decide)
  refine RG ?_
  simp -implicitDefEqProofs
  refine callG_fun (w_tOperAt' p0.ops 0 (by first | assumption | grind) (by first | assumption | omega) (by decide)) ?_ ?_
  ·simp
  simp -implicitDefEqProofs
  refine EV.ret ?_
  simp only [KR1, KR2, KR3, KR4]
  subst e
  refine Fin.pure0 ?_
  first | (simp; done) | (simp <;> grind)
 try simp at k4
 obtain ⟨f4, e⟩ := NO e k4
 try simp at f4
 refine SR ?_
 simp -implicitDefEqProofs
 refine EV.condT ?_
 simp -implicitDefEqProofs
 refine condT_intro (fun k5 => ?_) (fun k5 => ?_)
 ·try simp at k5
  obtain ⟨f5, e⟩ := PO e k5
  try simp at f5
  refine EV.seq ?_
  have := plT_len p0.p
  have ct6 : (([38] : List UInt8)).length + ((plT p0.p)).length ≤ 9223372036854775807 := by ((try dsimp only); (try simp only [List.drop_zero, List.length_append, List.length_cons, List.length_nil]); omega)
  try simp at ct6
  refine RG ?_
  simp -implicitDefEqProofs [ct6]
  refine callG_fun (w_tPlace' p0.p (by first | assumption | grind) (by first | assumption | omega)) ?_ ?_
  ·first | (simp; done) | (simp [ct6]; done)
  simp -implicitDefEqProofs [ct6]
  refine EV.ret ?_
  simp only [KR1, KR2, KR3, KR4]
  subst e
  refine Fin.pure0 ?_
  first | (simp; done) | (simp <;> grind)
 try simp at k5
 obtain ⟨f5, e⟩ := NO e k5
 try simp at f5
 refine SR ?_
 simp -implicitDefEqProofs
 refine EV.condT ?_
 simp -implicitDefEqProofs
 refine condT_intro (fun k7 => ?_) (fun k7 => ?_)
 ·try simp at k7
  obtain ⟨f7, e⟩ := PO e k7
  try simp at f7
  refine EV.seq ?_
  have := plT_len p0.p
  have ct8 : (([38, 109, 117, 116, 32] : List UInt8)).length + ((plT p0.p)).length ≤ 9223372036854775807 := by ((try dsimp only); (try simp only [List.drop_zero, List.length_append, List.length_cons, List.length_nil]); omega)
  try simp at ct8
  refine RG ?_
  simp -implicitDefEqProofs [ct8]
  refine callG_fun (w_tPlace' p0.p (by first | assumption | grind) (by first | assumption | omega)) ?_ ?_
  ·first | (simp; done) | (simp [ct8]; done)
  simp -implicitDefEqProofs [ct8]
  refine EV.ret ?_
  simp only [KR1, KR2, KR3, KR4]
  subst e
  refine Fin.pure0 ?_
  first | (simp; done) | (simp <;> grind)
 try simp at k7
 obtain ⟨f7, e⟩ := NO e k7
 try simp at f7
 refine SR ?_
 simp -implicitDefEqProofs
 refine EV.condT ?_
 simp -implicitDefEqProofs
 refine condT_intro (fun k9 => ?_) (fun k9 => ?_)
 ·try simp at k9
  obtain ⟨f9, e⟩ := PO e k9
  try simp at f9
  refine EV.seq ?_
  have := opAt_len p0.ops 0 (by decide)
  have ct10 : (([98, 111, 120, 32] : List UInt8)).length + ((opAt p0.ops 0)).length ≤ 9223372036854775807 := by ((try dsimp only); (try simp only [List.drop_zero, List.length_append, List.length_cons, List.length_nil]); omega)
  try simp at ct10
  refine RG ?_
  simp -implicitDefEqProofs [ct10]
  refine callG_fun (w_tOperAt' p0.ops 0 (by first | assumption | grind) (by first | assumption | omega) (by decide)) ?_ ?_
  ·first | (simp; done) | (simp [ct10]; done)
  simp -implicitDefEqProofs [ct10]
  refine EV.ret ?_
  simp only [KR1, KR2, KR3, KR4]
  subst e
  refine Fin.pure0 ?_
  first | (simp; done) | (simp <;> grind)
 try simp at k9
 obtain ⟨f9, e⟩ := NO e k9
 try simp at f9
 refine SR ?_
 simp -implicitDefEqProofs
 refine EV.condT ?_
 simp -implicitDefEqProofs
 refine condT_intro (fun k11 => ?_) (fun k11 => ?_)
 ·try simp at k11
  obtain ⟨f11, e⟩ := PO e k11
  try simp at f11
  refine EV.seq ?_
  have := plT_len p0.p
  have ct12 : (([117, 110, 98, 111, 120, 32] : List UInt8)).length + ((plT p0.p)).length ≤ 9223372036854775807 := by ((try dsimp only); (try simp only [List.drop_zero, List.length_append, List.length_cons, List.length_nil]); omega)
  try simp at ct12
  refine RG ?_
  simp -implicitDefEqProofs [ct12]
  refine callG_fun (w_tPlace' p0.p (by first | assumption | grind) (by first | assumption | omega)) ?_ ?_
  ·first | (simp; done) | (simp [ct12]; done)
  simp -implicitDefEqProofs [ct12]
  refine EV.ret ?_
  simp only [KR1, KR2, KR3, KR4]
  subst e
  refine Fin.pure0 ?_
  first | (simp; done) | (simp <;> grind)
 try simp at k11
 obtain ⟨f11, e⟩ := NO e k11
 try simp at f11
 refine SR ?_
 simp -implicitDefEqProofs
 refine EV.condT ?_
 simp -implicitDefEqProofs
 refine condT_intro (fun k13 => ?_) (fun k13 => ?_)
 ·try simp at k13
  obtain ⟨f13, e⟩ := PO e k13
  try simp at f13
  refine EV.seq ?_
  have := plT_len p0.p
  have ct14 : (([97, 119, 97, 105, 116, 32] : List UInt8)).length + ((plT p0.p)).length ≤ 9223372036854775807 := by ((try dsimp only); (try simp only [List.drop_zero, List.length_append, List.length_cons, List.length_nil]); omega)
  try simp at ct14
  refine RG ?_
  simp -implicitDefEqProofs [ct14]
  refine callG_fun (w_tPlace' p0.p (by first | assumption | grind) (by first | assumption | omega)) ?_ ?_
  ·first | (simp; done) | (simp [ct14]; done)
  simp -implicitDefEqProofs [ct14]
  refine EV.ret ?_
  simp only [KR1, KR2, KR3, KR4]
  subst e
  refine Fin.pure0 ?_
  first | (simp; done) | (simp <;> grind)
 try simp at k13
 obtain ⟨f13, e⟩ := NO e k13
 try simp at f13
 refine SR ?_
 simp -implicitDefEqProofs
 refine EV.condT ?_
 simp -implicitDefEqProofs
 refine condT_intro (fun k15 => ?_) (fun k15 => ?_)
 ·try simp at k15
  obtain ⟨f15, e⟩ := PO e k15
  try simp at f15
  refine EV.seq ?_
  have := plT_len p0.p
  have ct16 : (([112, 111, 108, 108, 32] : List UInt8)).length + ((plT p0.p)).length ≤ 9223372036854775807 := by ((try dsimp only); (try simp only [List.drop_zero, List.length_append, List.length_cons, List.length_nil]); omega)
  try simp at ct16
  refine RG ?_
  simp -implicitDefEqProofs [ct16]
  refine callG_fun (w_tPlace' p0.p (by first | assumption | grind) (by first | assumption | omega)) ?_ ?_
  ·first | (simp; done) | (simp [ct16]; done)
  simp -implicitDefEqProofs [ct16]
  refine EV.ret ?_
  simp only [KR1, KR2, KR3, KR4]
  subst e
  refine Fin.pure0 ?_
  first | (simp; done) | (simp <;> grind)
 try simp at k15
 obtain ⟨f15, e⟩ := NO e k15
 try simp at f15
 refine SR ?_
 simp -implicitDefEqProofs
 refine EV.condT ?_
 simp -implicitDefEqProofs
 refine condT_intro (fun k17 => ?_) (fun k17 => ?_)
 ·try simp at k17
  obtain ⟨f17, e⟩ := PO e k17
  try simp at f17
  refine EV.seq ?_
  have := opAt_len p0.ops 0 (by decide)
  have ct18 : (([119, 97, 105, 116, 32] : List UInt8)).length + ((opAt p0.ops 0)).length ≤ 9223372036854775807 := by ((try dsimp only); (try simp only [List.drop_zero, List.length_append, List.length_cons, List.length_nil]); omega)
  try simp at ct18
  refine RG ?_
  simp -implicitDefEqProofs [ct18]
  refine callG_fun (w_tOperAt' p0.ops 0 (by first | assumption | grind) (by first | assumption | omega) (by decide)) ?_ ?_
  ·first | (simp; done) | (simp [ct18]; done)
  simp -implicitDefEqProofs [ct18]
  refine EV.ret ?_
  simp only [KR1, KR2, KR3, KR4]
  subst e
  refine Fin.pure0 ?_
  first | (simp; done) | (simp <;> grind)
 try simp at k17
 obtain ⟨f17, e⟩ := NO e k17
 try simp at f17
 refine SR ?_
 simp -implicitDefEqProofs
 refine EV.condT ?_
 simp -implicitDefEqProofs
 refine condT_intro (fun k19 => ?_) (fun k19 => ?_)
 ·try simp at k19
  obtain ⟨f19, e⟩ := PO e k19
  try simp at f19
  refine EV.seq ?_
  have := argT_len p0.ops
  have ct20 : (p0.name).length + ((argT p0.ops)).length ≤ 9223372036854775807 := by ((try dsimp only); (try simp only [List.drop_zero, List.length_append, List.length_cons, List.length_nil]); omega)
  try simp at ct20
  refine EV.drawG tabOK mixedOK ?_
  simp -implicitDefEqProofs [ct20]
  refine callG_fun (w_tArgs' p0.ops (by first | assumption | grind) (by first | assumption | omega)) ?_ ?_
  ·first | (simp; done) | (simp [ct20]; done)
  simp -implicitDefEqProofs [ct20]
  refine And.intro ?_ ?_
  ·first | decide +kernel | (simp -implicitDefEqProofs; decide +kernel) | (split <;> decide +kernel)
  try simp -implicitDefEqProofs
  refine EV.ret ?_
  simp only [KR1, KR2, KR3, KR4]
  subst e
  refine Fin.pure0 ?_
  first | (simp; done) | (simp <;> grind)
 try simp at k19
 obtain ⟨f19, e⟩ := NO e k19
 try simp at f19
 refine SR ?_
 simp -implicitDefEqProofs
 refine EV.condT ?_
 simp -implicitDefEqProofs
 refine condT_intro (fun k21 => ?_) (fun k21 => ?_)
 ·try simp at k21
  obtain ⟨f21, e⟩ := PO e k21
  try simp at f21
  refine EV.seq ?_
  have ct22 : (([115, 116, 97, 114, 116, 32] : List UInt8)).length + (p0.name).length ≤ 9223372036854775807 := by ((try dsimp only); (try simp only [List.drop_zero, List.length_append, List.length_cons, List.length_nil]); omega)
  try simp at ct22
  have := argT_len p0.ops
  have ct23 : ((([115, 116, 97, 114, 116, 32] : List UInt8) ++ p0.name)).length + ((argT p0.ops)).length ≤ 9223372036854775807 := by ((try dsimp only); (try simp only [List.drop_zero, List.length_append, List.length_cons, List.length_nil]); omega)
  try simp at ct23
  refine EV.drawG tabOK mixedOK ?_
  simp -implicitDefEqProofs [ct22, ct23]
  refine callG_fun (w_tArgs' p0.ops (by first | assumption | grind) (by first | assumption | omega)) ?_ ?_
  ·first | (simp; done) | (simp [ct22, ct23]; done)
  simp -implicitDefEqProofs [ct22, ct23]
  refine And.intro ?_ ?_
  ·first | decide +kernel | (simp -implicitDefEqProofs; decide +kernel) | (split <;> decide +kernel)
  try simp -implicitDefEqProofs
  refine EV.ret ?_
  simp only [KR1, KR2, KR3, KR4]
  subst e
  refine Fin.pure0 ?_
  first | (simp; done) | (simp <;> grind)
 try simp at k21
 obtain ⟨f21, e⟩ := NO e k21
 try simp at f21
 refine SR ?_
 simp -implicitDefEqProofs
 refine EV.condT ?_
 simp -implicitDefEqProofs
 refine condT_intro (fun k24 => ?_) (fun k24 => ?_)
 ·try simp at k24
  obtain ⟨f24, e⟩ := PO e k24
  try simp at f24
  refine EV.seq ?_
  have ct25 : (p0.name).length + (([58, 58] : List UInt8)).length ≤ 9223372036854775807 := by ((try dsimp only); (try simp only [List.drop_zero, List.length_append, List.length_cons, List.length_nil]); omega)
  try simp at ct25
  have ct26 : ((p0.name ++ ([58, 58] : List UInt8))).length + (p0.variant).length ≤ 9223372036854775807 := by ((try dsimp only); (try simp only [List.drop_zero, List.length_append, List.length_cons, List.length_nil]); omega)
  try simp at ct26
  refine RG ?_
  simp -implicitDefEqProofs [ct25, ct26]
  refine EV.seq (SR ?_)
  simp -implicitDefEqProofs [ct25, ct26]
  refine EV.condT ?_
  simp -implicitDefEqProofs [ct25, ct26]
  refine condT_intro (fun k27 => ?_) (fun k27 => ?_)
  ·try simp at k27
   obtain ⟨f27, e⟩ := PO e k27
   try simp at f27
   have := argT_len p0.ops
   have ct28 : (((p0.name ++ ([58, 58] : List UInt8)) ++ p0.variant)).length + ((argT p0.ops)).length ≤ 9223372036854775807 := by ((try dsimp only); (try simp only [List.drop_zero, List.length_append, List.length_cons, List.length_nil]); omega)
   try simp at ct28
   refine RG ?_
   simp -implicitDefEqProofs [ct25, ct26, ct28]
   refine callG_fun (w_tArgs' p0.ops (by first | assumption | grind) (by first | assumption | omega)) ?_ ?_
   ·first | (simp; done) | (simp [ct25, ct26, ct28]; done)
   simp -implicitDefEqProofs [ct25, ct26, ct28]
   refine SR ?_
   simp -implicitDefEqProofs [ct25, ct26, ct28]
   refine EV.ret ?_
   simp only [KR1, KR2, KR3, KR4]
   subst e
   refine Fin.pure0 ?_
   first | (simp; done) | (simp <;> grind)
  try simp at k27
  obtain ⟨f27, e⟩ := NO e k27
  try simp at f27
  refine EV.skip ?_
  simp only [KN1, KN2, KN3]
  refine SR ?_
  simp -implicitDefEqProofs [ct25, ct26]
  refine EV.ret ?_
  simp only [KR1, KR2, KR3, KR4]
  subst e
  refine Fin.pure0 ?_
  first | (simp; done) | (simp <;> grind)
 try simp at k24
 obtain ⟨f24, e⟩ := NO e k24
 try simp at f24
 refine EV.skip ?_
 simp only [KN1, KN2, KN3]
 refine SR ?_
 simp -implicitDefEqProofs
 refine EV.ret ?_
 simp only [KR1, KR2, KR3, KR4]
 subst e
 refine Fin.pure0 ?_
 first | (simp; done) | (simp <;> grind)
theorem tSet_eq (p0 : RvD) : tSet p0 = setT p0 := by
 have e : (if 0 < (p0.ops.length : Int) then (((p0.name ++ ([58, 58] : List UInt8)) ++ p0.variant) ++ (argT p0.ops)) else ((p0.name ++ ([58, 58] : List UInt8)) ++ p0.variant)) = p0.name ++ [58, 58] ++ p0.variant ++ argO p0.ops := by
  unfold argO
  split
  ·rw [if_neg (by omega)]
  rw [if_pos (by omega), List.append_nil]
 unfold tSet setT setR
 rw [e]
 by_cases hs : signT p0.k = []
 ·rw [if_neg (not_not_intro hs), if_pos hs]
 rw [if_pos hs, if_neg hs]
theorem w_tSet' (p0 : RvD) (hw : wfL (rvC p0)) (hz : bkL (rvC p0) ≤ 1050000) : QC prog 30 [.agg [.i .i64 p0.k, .ro 4 (p0.ops.map operC), .s p0.p.name, .ro 1 (p0.p.path.map stepC), .s p0.name, .s p0.variant]] [] (.s (setT p0)) [] := by rw [← tSet_eq p0]; exact w_tSet p0 hw hz
end
end Go.Proofs.Tryz
end
