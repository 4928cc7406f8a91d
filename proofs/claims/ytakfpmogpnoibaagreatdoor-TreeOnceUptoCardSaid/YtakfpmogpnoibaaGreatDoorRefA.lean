/- The data that the laws speak of; contracts of the functions that tell how great a source is. -/
import Derived.Test.YtakfpmogpnoibaaGreatDoorChecked
import Derived.Test.YtakfpmogpnoibaaGreatDoorMachD
set_option linter.unusedVariables false
set_option linter.unusedSimpArgs false
set_option linter.constructorNameAsVariable false
section
namespace Go.Proofs.Tryz
open Go Go.AM
structure TyD where
  k : Int
  name : List UInt8
  l : List TyD
instance : Inhabited TyD := ⟨⟨0, [], []⟩⟩
mutual
def tyC : TyD → List V
  | ⟨k, name, l⟩ => [.i .i64 k, .s name, .ro 3 (tyCs l)]
def tyCs : List TyD → List (List V)
  | [] => []
  | t :: ts => tyC t :: tyCs ts
end
theorem tyCs_map : ∀ l, tyCs l = l.map tyC
  | [] => by rw [tyCs]; rfl
  | t :: ts => by rw [tyCs, tyCs_map ts]; rfl
theorem tyC_eq (t : TyD) : tyC t = [.i .i64 t.k, .s t.name, .ro 3 (t.l.map tyC)] := by
  obtain ⟨k, name, l⟩ := t
  rw [tyC]; simp only [tyCs_map]
structure FieldD where
  name : List UInt8
  ty : TyD
instance : Inhabited FieldD := ⟨⟨[], default⟩⟩
def fieldC (t : FieldD) : List V := [.s t.name, .i .i64 t.ty.k, .s t.ty.name, .ro 3 (t.ty.l.map tyC)]
theorem fieldC_eq (t : FieldD) : fieldC t = [.s t.name, .i .i64 t.ty.k, .s t.ty.name, .ro 3 (t.ty.l.map tyC)] := rfl
structure StructD where
  name : List UInt8
  drop_ : Bool
  fields : List FieldD
  at_ : Int
instance : Inhabited StructD := ⟨⟨[], false, [], 0⟩⟩
def structC (t : StructD) : List V := [.s t.name, .b t.drop_, .ro 4 (t.fields.map fieldC), .i .i64 t.at_]
theorem structC_eq (t : StructD) : structC t = [.s t.name, .b t.drop_, .ro 4 (t.fields.map fieldC), .i .i64 t.at_] := rfl
structure VariantD where
  name : List UInt8
  ty : TyD
instance : Inhabited VariantD := ⟨⟨[], default⟩⟩
def variantC (t : VariantD) : List V := [.s t.name, .i .i64 t.ty.k, .s t.ty.name, .ro 3 (t.ty.l.map tyC)]
theorem variantC_eq (t : VariantD) : variantC t = [.s t.name, .i .i64 t.ty.k, .s t.ty.name, .ro 3 (t.ty.l.map tyC)] := rfl
structure EnumD where
  name : List UInt8
  variants : List VariantD
  at_ : Int
instance : Inhabited EnumD := ⟨⟨[], [], 0⟩⟩
def enumC (t : EnumD) : List V := [.s t.name, .ro 4 (t.variants.map variantC), .i .i64 t.at_]
theorem enumC_eq (t : EnumD) : enumC t = [.s t.name, .ro 4 (t.variants.map variantC), .i .i64 t.at_] := rfl
structure StepD where
  field : List UInt8
instance : Inhabited StepD := ⟨⟨[]⟩⟩
def stepC (t : StepD) : List V := [.s t.field]
theorem stepC_eq (t : StepD) : stepC t = [.s t.field] := rfl
structure PlaceD where
  name : List UInt8
  path : List StepD
instance : Inhabited PlaceD := ⟨⟨[], []⟩⟩
def placeC (t : PlaceD) : List V := [.s t.name, .ro 1 (t.path.map stepC)]
theorem placeC_eq (t : PlaceD) : placeC t = [.s t.name, .ro 1 (t.path.map stepC)] := rfl
structure OperD where
  num : Bool
  n : Int
  p : PlaceD
instance : Inhabited OperD := ⟨⟨false, 0, default⟩⟩
def operC (t : OperD) : List V := [.b t.num, .i .i64 t.n, .s t.p.name, .ro 1 (t.p.path.map stepC)]
theorem operC_eq (t : OperD) : operC t = [.b t.num, .i .i64 t.n, .s t.p.name, .ro 1 (t.p.path.map stepC)] := rfl
structure RvD where
  k : Int
  ops : List OperD
  p : PlaceD
  name : List UInt8
  variant : List UInt8
instance : Inhabited RvD := ⟨⟨0, [], default, [], []⟩⟩
def rvC (t : RvD) : List V := [.i .i64 t.k, .ro 4 (t.ops.map operC), .s t.p.name, .ro 1 (t.p.path.map stepC), .s t.name, .s t.variant]
theorem rvC_eq (t : RvD) : rvC t = [.i .i64 t.k, .ro 4 (t.ops.map operC), .s t.p.name, .ro 1 (t.p.path.map stepC), .s t.name, .s t.variant] := rfl
mutual
structure StmtD where
  k : Int
  at_ : Int
  name : List UInt8
  ty : TyD
  p : PlaceD
  rv : RvD
  op : OperD
  then_ : List StmtD
  else_ : List StmtD
  arms : List ArmD
structure ArmD where
  variant : List UInt8
  bind : List UInt8
  body : List StmtD
end
instance : Inhabited StmtD := ⟨⟨0, 0, [], default, default, default, default, [], [], []⟩⟩
instance : Inhabited ArmD := ⟨⟨[], [], []⟩⟩
mutual
def stmtC : StmtD → List V
  | ⟨k, at_, name, ty, p, rv, op, then_, else_, arms⟩ => [.i .i64 k, .i .i64 at_, .s name, .i .i64 ty.k, .s ty.name, .ro 3 (ty.l.map tyC), .s p.name, .ro 1 (p.path.map stepC), .i .i64 rv.k, .ro 4 (rv.ops.map operC), .s rv.p.name, .ro 1 (rv.p.path.map stepC), .s rv.name, .s rv.variant, .b op.num, .i .i64 op.n, .s op.p.name, .ro 1 (op.p.path.map stepC), .ro 21 (stmtCs then_), .ro 21 (stmtCs else_), .ro 3 (armCs arms)]
def stmtCs : List StmtD → List (List V)
  | [] => []
  | t :: ts => stmtC t :: stmtCs ts
def armC : ArmD → List V
  | ⟨variant, bind, body⟩ => [.s variant, .s bind, .ro 21 (stmtCs body)]
def armCs : List ArmD → List (List V)
  | [] => []
  | t :: ts => armC t :: armCs ts
end
theorem stmtCs_map : ∀ l, stmtCs l = l.map stmtC
  | [] => by rw [stmtCs]; rfl
  | t :: ts => by rw [stmtCs, stmtCs_map ts]; rfl
theorem armCs_map : ∀ l, armCs l = l.map armC
  | [] => by rw [armCs]; rfl
  | t :: ts => by rw [armCs, armCs_map ts]; rfl
theorem stmtC_eq (t : StmtD) : stmtC t = [.i .i64 t.k, .i .i64 t.at_, .s t.name, .i .i64 t.ty.k, .s t.ty.name, .ro 3 (t.ty.l.map tyC), .s t.p.name, .ro 1 (t.p.path.map stepC), .i .i64 t.rv.k, .ro 4 (t.rv.ops.map operC), .s t.rv.p.name, .ro 1 (t.rv.p.path.map stepC), .s t.rv.name, .s t.rv.variant, .b t.op.num, .i .i64 t.op.n, .s t.op.p.name, .ro 1 (t.op.p.path.map stepC), .ro 21 (t.then_.map stmtC), .ro 21 (t.else_.map stmtC), .ro 3 (t.arms.map armC)] := by
  obtain ⟨k, at_, name, ty, p, rv, op, then_, else_, arms⟩ := t
  rw [stmtC]; simp only [stmtCs_map, armCs_map]
theorem armC_eq (t : ArmD) : armC t = [.s t.variant, .s t.bind, .ro 21 (t.body.map stmtC)] := by
  obtain ⟨variant, bind, body⟩ := t
  rw [armC]; simp only [stmtCs_map, armCs_map]
structure FnD where
  name : List UInt8
  params : List FieldD
  body : List StmtD
  at_ : Int
instance : Inhabited FnD := ⟨⟨[], [], [], 0⟩⟩
def fnC (t : FnD) : List V := [.s t.name, .ro 4 (t.params.map fieldC), .ro 21 (t.body.map stmtC), .i .i64 t.at_]
theorem fnC_eq (t : FnD) : fnC t = [.s t.name, .ro 4 (t.params.map fieldC), .ro 21 (t.body.map stmtC), .i .i64 t.at_] := rfl
structure SourceD where
  structs : List StructD
  enums : List EnumD
  fns : List FnD
instance : Inhabited SourceD := ⟨⟨[], [], []⟩⟩
def sourceC (t : SourceD) : List V := [.ro 4 (t.structs.map structC), .ro 3 (t.enums.map enumC), .ro 4 (t.fns.map fnC)]
theorem sourceC_eq (t : SourceD) : sourceC t = [.ro 4 (t.structs.map structC), .ro 3 (t.enums.map enumC), .ro 4 (t.fns.map fnC)] := rfl
structure LocalD where
  name : List UInt8
  ty : TyD
instance : Inhabited LocalD := ⟨⟨[], default⟩⟩
def localC (t : LocalD) : List V := [.s t.name, .i .i64 t.ty.k, .s t.ty.name, .ro 3 (t.ty.l.map tyC)]
theorem localC_eq (t : LocalD) : localC t = [.s t.name, .i .i64 t.ty.k, .s t.ty.name, .ro 3 (t.ty.l.map tyC)] := rfl
structure SpotD where
  local_ : Int
  path : List Int
instance : Inhabited SpotD := ⟨⟨0, []⟩⟩
def spotC (t : SpotD) : List V := [.i .i64 t.local_, .ro 1 (t.path.map (fun z => [.i .i64 z]))]
theorem spotC_eq (t : SpotD) : spotC t = [.i .i64 t.local_, .ro 1 (t.path.map (fun z => [.i .i64 z]))] := rfl
structure UseD where
  num : Bool
  n : Int
  move : Bool
  s : SpotD
instance : Inhabited UseD := ⟨⟨false, 0, false, default⟩⟩
def useC (t : UseD) : List V := [.b t.num, .i .i64 t.n, .b t.move, .i .i64 t.s.local_, .ro 1 (t.s.path.map (fun z => [.i .i64 z]))]
theorem useC_eq (t : UseD) : useC t = [.b t.num, .i .i64 t.n, .b t.move, .i .i64 t.s.local_, .ro 1 (t.s.path.map (fun z => [.i .i64 z]))] := rfl
structure ValueD where
  k : Int
  uses : List UseD
  s : SpotD
  which : Int
  tag : Int
instance : Inhabited ValueD := ⟨⟨0, [], default, 0, 0⟩⟩
def valueC (t : ValueD) : List V := [.i .i64 t.k, .ro 5 (t.uses.map useC), .i .i64 t.s.local_, .ro 1 (t.s.path.map (fun z => [.i .i64 z])), .i .i64 t.which, .i .i64 t.tag]
theorem valueC_eq (t : ValueD) : valueC t = [.i .i64 t.k, .ro 5 (t.uses.map useC), .i .i64 t.s.local_, .ro 1 (t.s.path.map (fun z => [.i .i64 z])), .i .i64 t.which, .i .i64 t.tag] := rfl
structure InD where
  k : Int
  at_ : Int
  s : SpotD
  v : ValueD
  u : UseD
instance : Inhabited InD := ⟨⟨0, 0, default, default, default⟩⟩
def inC (t : InD) : List V := [.i .i64 t.k, .i .i64 t.at_, .i .i64 t.s.local_, .ro 1 (t.s.path.map (fun z => [.i .i64 z])), .i .i64 t.v.k, .ro 5 (t.v.uses.map useC), .i .i64 t.v.s.local_, .ro 1 (t.v.s.path.map (fun z => [.i .i64 z])), .i .i64 t.v.which, .i .i64 t.v.tag, .b t.u.num, .i .i64 t.u.n, .b t.u.move, .i .i64 t.u.s.local_, .ro 1 (t.u.s.path.map (fun z => [.i .i64 z]))]
theorem inC_eq (t : InD) : inC t = [.i .i64 t.k, .i .i64 t.at_, .i .i64 t.s.local_, .ro 1 (t.s.path.map (fun z => [.i .i64 z])), .i .i64 t.v.k, .ro 5 (t.v.uses.map useC), .i .i64 t.v.s.local_, .ro 1 (t.v.s.path.map (fun z => [.i .i64 z])), .i .i64 t.v.which, .i .i64 t.v.tag, .b t.u.num, .i .i64 t.u.n, .b t.u.move, .i .i64 t.u.s.local_, .ro 1 (t.u.s.path.map (fun z => [.i .i64 z]))] := rfl
structure TmD where
  k : Int
  at_ : Int
  s : SpotD
  v : ValueD
  u : UseD
  to_ : List Int
instance : Inhabited TmD := ⟨⟨0, 0, default, default, default, []⟩⟩
def tmC (t : TmD) : List V := [.i .i64 t.k, .i .i64 t.at_, .i .i64 t.s.local_, .ro 1 (t.s.path.map (fun z => [.i .i64 z])), .i .i64 t.v.k, .ro 5 (t.v.uses.map useC), .i .i64 t.v.s.local_, .ro 1 (t.v.s.path.map (fun z => [.i .i64 z])), .i .i64 t.v.which, .i .i64 t.v.tag, .b t.u.num, .i .i64 t.u.n, .b t.u.move, .i .i64 t.u.s.local_, .ro 1 (t.u.s.path.map (fun z => [.i .i64 z])), .ro 1 (t.to_.map (fun z => [.i .i64 z]))]
theorem tmC_eq (t : TmD) : tmC t = [.i .i64 t.k, .i .i64 t.at_, .i .i64 t.s.local_, .ro 1 (t.s.path.map (fun z => [.i .i64 z])), .i .i64 t.v.k, .ro 5 (t.v.uses.map useC), .i .i64 t.v.s.local_, .ro 1 (t.v.s.path.map (fun z => [.i .i64 z])), .i .i64 t.v.which, .i .i64 t.v.tag, .b t.u.num, .i .i64 t.u.n, .b t.u.move, .i .i64 t.u.s.local_, .ro 1 (t.u.s.path.map (fun z => [.i .i64 z])), .ro 1 (t.to_.map (fun z => [.i .i64 z]))] := rfl
structure BlockD where
  ins : List InD
  end_ : TmD
instance : Inhabited BlockD := ⟨⟨[], default⟩⟩
def blockC (t : BlockD) : List V := [.ro 15 (t.ins.map inC), .i .i64 t.end_.k, .i .i64 t.end_.at_, .i .i64 t.end_.s.local_, .ro 1 (t.end_.s.path.map (fun z => [.i .i64 z])), .i .i64 t.end_.v.k, .ro 5 (t.end_.v.uses.map useC), .i .i64 t.end_.v.s.local_, .ro 1 (t.end_.v.s.path.map (fun z => [.i .i64 z])), .i .i64 t.end_.v.which, .i .i64 t.end_.v.tag, .b t.end_.u.num, .i .i64 t.end_.u.n, .b t.end_.u.move, .i .i64 t.end_.u.s.local_, .ro 1 (t.end_.u.s.path.map (fun z => [.i .i64 z])), .ro 1 (t.end_.to_.map (fun z => [.i .i64 z]))]
theorem blockC_eq (t : BlockD) : blockC t = [.ro 15 (t.ins.map inC), .i .i64 t.end_.k, .i .i64 t.end_.at_, .i .i64 t.end_.s.local_, .ro 1 (t.end_.s.path.map (fun z => [.i .i64 z])), .i .i64 t.end_.v.k, .ro 5 (t.end_.v.uses.map useC), .i .i64 t.end_.v.s.local_, .ro 1 (t.end_.v.s.path.map (fun z => [.i .i64 z])), .i .i64 t.end_.v.which, .i .i64 t.end_.v.tag, .b t.end_.u.num, .i .i64 t.end_.u.n, .b t.end_.u.move, .i .i64 t.end_.u.s.local_, .ro 1 (t.end_.u.s.path.map (fun z => [.i .i64 z])), .ro 1 (t.end_.to_.map (fun z => [.i .i64 z]))] := rfl
structure BodyD where
  name : List UInt8
  params : Int
  locals : List LocalD
  blocks : List BlockD
instance : Inhabited BodyD := ⟨⟨[], 0, [], []⟩⟩
def bodyC (t : BodyD) : List V := [.s t.name, .i .i64 t.params, .ro 4 (t.locals.map localC), .ro 17 (t.blocks.map blockC)]
theorem bodyC_eq (t : BodyD) : bodyC t = [.s t.name, .i .i64 t.params, .ro 4 (t.locals.map localC), .ro 17 (t.blocks.map blockC)] := rfl
structure MirBodyD where
  s : SourceD
  b : BodyD
instance : Inhabited MirBodyD := ⟨⟨default, default⟩⟩
def mirBodyC (t : MirBodyD) : List V := [.ro 4 (t.s.structs.map structC), .ro 3 (t.s.enums.map enumC), .ro 4 (t.s.fns.map fnC), .s t.b.name, .i .i64 t.b.params, .ro 4 (t.b.locals.map localC), .ro 17 (t.b.blocks.map blockC)]
theorem mirBodyC_eq (t : MirBodyD) : mirBodyC t = [.ro 4 (t.s.structs.map structC), .ro 3 (t.s.enums.map enumC), .ro 4 (t.s.fns.map fnC), .s t.b.name, .i .i64 t.b.params, .ro 4 (t.b.locals.map localC), .ro 17 (t.b.blocks.map blockC)] := rfl
theorem mixedOK : Tryz.prog.follows .mixedOrders = true := Go.Checked.mixed Go.Proofs.Tryz.checked
end Go.Proofs.Tryz
end
section
namespace Go.Proofs.Tryz
open Go Go.AM
attribute [local simp] wpG_op wpG_nil contG_some wpG_guard guardG_v guardG_o guardG_tup gval pureOp stepG_if isPick pickG_pick pickB_b pickOK isCall step_move step_assign step_alloc step_box boxV_some step_load step_store step_binOp step_unOp step_fieldAddr faV step_indexAddr ixA_slc ixA_arr step_extract extV_tup step_nilCheck ncV_ptr ncV_rp ncV_fn ncV_mp step_build buildV step_buildSlice bsV step_index ixV_arr ixV_str step_append apB step_makeSlice msV_i step_makeFunc over step_len step_makeMap mmV step_mapUpdate step_insert muA_map muB_mp step_lookup lkA_map lkB_mp step_slice slcV_s slcV_sl slcV_ro cutB_some slObV_arr bound_none bound_some bndV_i lenB_str lenB_ro lenB_sl lenB_nil lenB_z ld_ptr ld_rp offV_ptr offV_rp idxV_ro idxV_sl unV_not unV_neg binV_int binV_str binV_eqlb binV_neqb intOp strOp St.put updL setOb St.ev toV St.lk cellsOf AM.valOf TK.agg stv fillV places TI.zero condT_true condT_false finS resL resSlot packV ren ren1 ren0 Value.cells builtinV appendV elemsOf keepT room_of wrap_in toIdx passed Function.comp_def take_len_map lenV touchOf hid tab1 tab2 tab3 tab4 tab5 tab6 tab7 tab8 tab9 tab20 tab22 tab23 tab24 tab26 tab32 tab33 tab35 tab36 tab37 tab39 tab41 tab42 tab43 tab45 tab46 tab47 tab49 tab50 tab52 tab74 tab79 tab83 tab86 tab87 tab89 tab92 tab100 tab101 tab102 tab103 tab105 tab107 tab108 tab113 tab114 tab116 tab117 tab118 tab122 tab123 tab125 tab127 tab130 tab132 tab136 tab173 tab175 tab178 tab179 tab180 tab182 tab189 tab215 tab219 tab220 tab224 tab225 tab241 tab244 tab247 tab253 tab261 tab262 tab265 tab266 armC_eq blockC_eq bodyC_eq enumC_eq fieldC_eq fnC_eq inC_eq localC_eq mirBodyC_eq operC_eq placeC_eq rvC_eq sourceC_eq spotC_eq stepC_eq stmtC_eq structC_eq tmC_eq tyC_eq useC_eq valueC_eq variantC_eq binV_eqls binV_neqs cutL_nil cutL_junk cutL_cons ren_arr ren_gone ren_unborn ren_var ren_row step_convert cvV_i cvV_sl cvV_s cvK_slc cvE_u8 bytesOf bor1 bor2 bor3 bor4
set_option linter.unusedSimpArgs false
set_option linter.unusedVariables false
set_option maxRecDepth 10000
set_option maxHeartbeats 40000000
noncomputable section
theorem sz_TyD_l (t : TyD) : SizeOf.sizeOf t.l < SizeOf.sizeOf t := by cases t; simp; omega
theorem sz_StmtD_then_ (t : StmtD) : SizeOf.sizeOf t.then_ < SizeOf.sizeOf t := by cases t; simp; omega
theorem sz_StmtD_else_ (t : StmtD) : SizeOf.sizeOf t.else_ < SizeOf.sizeOf t := by cases t; simp; omega
theorem sz_StmtD_arms (t : StmtD) : SizeOf.sizeOf t.arms < SizeOf.sizeOf t := by cases t; simp; omega
theorem sz_ArmD_body (t : ArmD) : SizeOf.sizeOf t.body < SizeOf.sizeOf t := by cases t; simp; omega
def zTy_b_l3 (r_zTy : TyD → Int) : List TyD → Int → Int
 | [], a3_0 => a3_0
 | x3 :: xs3, a3_0 => zTy_b_l3 r_zTy xs3 (IntKind.i64.wrap (a3_0 + (r_zTy x3)))
def zTy_b (r_zTy : TyD → Int) (p0 : TyD) : Int :=
 (bnd (zTy_b_l3 r_zTy p0.l (IntKind.i64.wrap (1 + (IntKind.i64.wrap (Int.tdiv (p0.name.length : Int) 30))))) fun (v3 : Int) => v3)
theorem w_zTy_b (r_zTy : TyD → Int) (p0 : TyD)  (D : Nat) (H_zTy : ∀ (u0 : TyD), SizeOf.sizeOf u0 < D → QC prog 34 [.agg [.i .i64 u0.k, .s u0.name, .ro 3 (u0.l.map tyC)]] [] (.i .i64 (r_zTy u0)) []) (hD : SizeOf.sizeOf p0 ≤ D) : QC prog 34 [.agg [.i .i64 p0.k, .s p0.name, .ro 3 (p0.l.map tyC)]] [] (.i .i64 (zTy_b r_zTy p0)) [] := by
 refine QC.of_body tabOK func34 rfl (by kernel_rfl) ?_
 simp only [f34]
 generalize e : zTy_b r_zTy p0 = R
 unfold zTy_b at e
 refine SR ?_
 simp -implicitDefEqProofs
 refine SR ?_
 simp -implicitDefEqProofs
 refine EV.seq (SR ?_)
 simp -implicitDefEqProofs
 obtain ⟨z3, e3, e⟩ := bnd_split e
 refine EV.nrm (fun v : { v : (Int) × (Unit) // z3 = v.1 } => (fun (v3 : Int) (g3 : Unit) => (⟨[J, J, J, .i .i64 v3, J, J, J, J, J, J, J, J, J, J, J, J, J, J, J, J, J, J, J, J, J, J], []⟩ : St)) v.1.1 v.1.2) ?_ ?_
 ·skip
  refine EV.block ?_
  refine EV.loopB (fun x : { x : Nat × Int // x.1 ≤ p0.l.length ∧ zTy_b_l3 r_zTy (p0.l.drop x.1) x.2 = z3 } => (fun (j3 : Nat) (a3_0 : Int) => (⟨[J, .ptr 0 0 0 0, J, .i .i64 a3_0, .i .i64 (j3 : Int), J, J, J, J, J, J, J, J, J, J, J, J, J, J, J, J, J, J, J, J, J], [.arr 0 3 [[.i .i64 p0.k, .s p0.name, .ro 3 (p0.l.map tyC)]]]⟩ : St)) x.1.1 x.1.2) (fun x => p0.l.length - x.1.1) ⟨(0, (IntKind.i64.wrap (1 + (IntKind.i64.wrap (Int.tdiv (p0.name.length : Int) 30))))), Nat.zero_le _, e3⟩ ?_ ?_
  ·skip
   try dsimp only
   try dsimp only
   refine Sub.cutF 1 (by simp) ?_ ?_ <;> simp [List.range_succ, toIdx_range, passed]
  rintro ⟨⟨j3, a3_0⟩, hi3, e3⟩
  simp only at hi3 e3 ⊢
  refine EV.seq (SR ?_)
  simp -implicitDefEqProofs
  refine EV.room 12 (by rfl) (fun mj3 => ?_)
  simp at mj3
  refine EV.condT ?_
  simp -implicitDefEqProofs
  refine condT_intro (fun k1 => ?_) (fun k1 => ?_)
  ·try simp at k1
   have u1 : j3 < p0.l.length := by omega
   obtain ⟨x3, hx3⟩ : ∃ z, p0.l[j3] = z := ⟨_, rfl⟩
   have mx3 : x3 ∈ p0.l := by rw [← hx3]; exact List.getElem_mem _
   have zzx3 := List.sizeOf_lt_of_mem mx3
   have := sz_TyD_l p0
   rw [List.drop_eq_getElem_cons u1, hx3, zTy_b_l3] at e3
   refine EV.skip ?_
   simp only [KN1, KN2, KN3]
   refine EV.seq (EV.block (RG ?_))
   simp -implicitDefEqProofs [k1, u1, hx3]
   refine callG_fun (H_zTy x3 (by first | omega | (simp at *; omega))) ?_ ?_
   ·first | (simp; done) | (simp [k1, u1, hx3]; done)
   simp -implicitDefEqProofs [k1, u1, hx3]
   refine RG ?_
   simp -implicitDefEqProofs [k1, u1, hx3]
   have w3 : IntKind.i64.wrap ((j3 : Int) + 1) = (j3 : Int) + 1 := wrap_in _ (by omega) (by omega)
   refine ⟨⟨(j3 + 1, (IntKind.i64.wrap (a3_0 + (r_zTy x3)))), by omega, e3⟩, by dsimp only; omega, ?_⟩
   try dsimp only
   refine Sub.cutF 1 (by simp) ?_ ?_ <;> simp [List.range_succ, toIdx_range, passed, k1, u1, hx3, w3]
  try simp at k1
  have d1 : p0.l.drop j3 = [] := List.drop_eq_nil_of_le (by omega)
  rw [d1, zTy_b_l3] at e3
  refine EV.exit ?_
  simp -implicitDefEqProofs
  refine ⟨⟨(a3_0, ()), e3.symm⟩, ?_⟩
  try dsimp only
  refine Sub.cutF 0 (by simp) ?_ ?_ <;> simp [List.range_succ, toIdx_range, passed]
 rintro ⟨⟨v3, g3⟩, e3⟩
 simp only [KN1, KN2, KN3, KN4]
 replace e := bnd_on e e3
 try dsimp only at e
 refine SR ?_
 simp -implicitDefEqProofs
 refine EV.ret ?_
 simp only [KR1, KR2, KR3, KR4]
 subst e
 refine Fin.pure0 ?_
 first | (simp; done) | (simp <;> grind)

def zTy_f : Nat → TyD → Int
 | 0, _ => default
 | k + 1, p0 => zTy_b (zTy_f k) p0
def zTy (p0 : TyD) : Int := zTy_f (SizeOf.sizeOf p0 + 1) p0
theorem w_zTy_f : ∀ k : Nat, (∀ (p0 : TyD), SizeOf.sizeOf p0 < k → QC prog 34 [.agg [.i .i64 p0.k, .s p0.name, .ro 3 (p0.l.map tyC)]] [] (.i .i64 (zTy_f k p0)) [])
 | 0 => by refine (fun _ h => absurd h (Nat.not_lt_zero _))
 | k + 1 => by refine (fun p0 h => by rw [zTy_f]; exact w_zTy_b (zTy_f k) p0 k (w_zTy_f k) (by omega))
theorem w_zTy (p0 : TyD) : QC prog 34 [.agg [.i .i64 p0.k, .s p0.name, .ro 3 (p0.l.map tyC)]] [] (.i .i64 (zTy p0)) [] := (w_zTy_f (SizeOf.sizeOf p0 + 1)) p0 (Nat.lt_succ_self _)

def zField_l3  : List FieldD → Int → Int
 | [], a3_0 => a3_0
 | x3 :: xs3, a3_0 => zField_l3 xs3 (IntKind.i64.wrap ((IntKind.i64.wrap ((IntKind.i64.wrap (a3_0 + 1)) + (IntKind.i64.wrap (Int.tdiv (x3.name.length : Int) 30)))) + (zTy x3.ty)))
def zField (p0 : List FieldD) : Int :=
 (bnd (zField_l3 p0 0) fun (v3 : Int) => v3)
theorem w_zField (p0 : List FieldD)  : QC prog 33 [.ro 4 (p0.map fieldC)] [] (.i .i64 (zField p0)) [] := by
 refine QC.of_body tabOK func33 rfl (by kernel_rfl) ?_
 simp only [f33]
 generalize e : zField p0 = R
 unfold zField at e
 refine SR ?_
 simp -implicitDefEqProofs
 refine SR ?_
 simp -implicitDefEqProofs
 refine EV.seq (SR ?_)
 simp -implicitDefEqProofs
 obtain ⟨z3, e3, e⟩ := bnd_split e
 refine EV.nrm (fun v : { v : (Int) × (Unit) // z3 = v.1 } => (fun (v3 : Int) (g3 : Unit) => (⟨[J, J, J, .i .i64 v3, J, J, J, J, J, J, J, J, J, J, J, J, J, J, J, J, J, J, J, J, J, J, J, J, J], []⟩ : St)) v.1.1 v.1.2) ?_ ?_
 ·skip
  refine EV.block ?_
  refine EV.loopB (fun x : { x : Nat × Int // x.1 ≤ p0.length ∧ zField_l3 (p0.drop x.1) x.2 = z3 } => (fun (j3 : Nat) (a3_0 : Int) => (⟨[.ro 4 (p0.map fieldC), J, J, .i .i64 a3_0, .i .i64 (j3 : Int), J, J, J, J, J, J, J, J, J, J, J, J, J, J, J, J, J, J, J, J, J, J, J, J], []⟩ : St)) x.1.1 x.1.2) (fun x => p0.length - x.1.1) ⟨(0, 0), Nat.zero_le _, e3⟩ ?_ ?_
  ·skip
   try dsimp only
   try dsimp only
   refine Sub.cutF 0 (by simp) ?_ ?_ <;> simp [List.range_succ, toIdx_range, passed]
  rintro ⟨⟨j3, a3_0⟩, hi3, e3⟩
  simp only at hi3 e3 ⊢
  refine EV.seq (SR ?_)
  simp -implicitDefEqProofs
  refine EV.room 0 (by rfl) (fun mj3 => ?_)
  simp at mj3
  refine EV.condT ?_
  simp -implicitDefEqProofs
  refine condT_intro (fun k1 => ?_) (fun k1 => ?_)
  ·try simp at k1
   have u1 : j3 < p0.length := by omega
   obtain ⟨x3, hx3⟩ : ∃ z, p0[j3] = z := ⟨_, rfl⟩
   have mx3 : x3 ∈ p0 := by rw [← hx3]; exact List.getElem_mem _
   rw [List.drop_eq_getElem_cons u1, hx3, zField_l3] at e3
   refine EV.skip ?_
   simp only [KN1, KN2, KN3]
   refine EV.seq (EV.block (EV.drawG tabOK mixedOK ?_))
   simp -implicitDefEqProofs [k1, u1, hx3]
   refine callG_fun (w_zTy x3.ty) ?_ ?_
   ·first | (simp; done) | (simp [k1, u1, hx3]; done)
   simp -implicitDefEqProofs [k1, u1, hx3]
   refine And.intro ?_ ?_
   ·first | decide +kernel | (simp -implicitDefEqProofs; decide +kernel) | (split <;> decide +kernel)
   try simp -implicitDefEqProofs
   refine RG ?_
   simp -implicitDefEqProofs [k1, u1, hx3]
   have w3 : IntKind.i64.wrap ((j3 : Int) + 1) = (j3 : Int) + 1 := wrap_in _ (by omega) (by omega)
   refine ⟨⟨(j3 + 1, (IntKind.i64.wrap ((IntKind.i64.wrap ((IntKind.i64.wrap (a3_0 + 1)) + (IntKind.i64.wrap (Int.tdiv (x3.name.length : Int) 30)))) + (zTy x3.ty)))), by omega, e3⟩, by dsimp only; omega, ?_⟩
   try dsimp only
   refine Sub.cutF 0 (by simp) ?_ ?_ <;> simp [List.range_succ, toIdx_range, passed, k1, u1, hx3, w3]
  try simp at k1
  have d1 : p0.drop j3 = [] := List.drop_eq_nil_of_le (by omega)
  rw [d1, zField_l3] at e3
  refine EV.exit ?_
  simp -implicitDefEqProofs
  refine ⟨⟨(a3_0, ()), e3.symm⟩, ?_⟩
  try dsimp only
  refine Sub.cutF 0 (by simp) ?_ ?_ <;> simp [List.range_succ, toIdx_range, passed]
 rintro ⟨⟨v3, g3⟩, e3⟩
 simp only [KN1, KN2, KN3, KN4]
 replace e := bnd_on e e3
 try dsimp only at e
 refine SR ?_
 simp -implicitDefEqProofs
 refine EV.ret ?_
 simp only [KR1, KR2, KR3, KR4]
 subst e
 refine Fin.pure0 ?_
 first | (simp; done) | (simp <;> grind)

def zBlock_b_l8  : List OperD → Int → Int
 | [], a8_0 => a8_0
 | x8 :: xs8, a8_0 => zBlock_b_l8 xs8 (IntKind.i64.wrap (a8_0 + (x8.p.path.length : Int)))
def zBlock_b_l12 (r_zBlock : (List StmtD) → Int) : List ArmD → Int → Int
 | [], a12_0 => a12_0
 | x12 :: xs12, a12_0 => zBlock_b_l12 r_zBlock xs12 (IntKind.i64.wrap ((IntKind.i64.wrap (a12_0 + 1)) + (r_zBlock x12.body)))
def zBlock_b_l3 (r_zBlock : (List StmtD) → Int) : List StmtD → Int → Int
 | [], a3_0 => a3_0
 | x3 :: xs3, a3_0 => (bnd (zBlock_b_l8 x3.rv.ops (IntKind.i64.wrap ((IntKind.i64.wrap ((IntKind.i64.wrap ((IntKind.i64.wrap ((IntKind.i64.wrap ((IntKind.i64.wrap ((IntKind.i64.wrap ((IntKind.i64.wrap (a3_0 + 1)) + (zTy x3.ty))) + (x3.p.path.length : Int))) + (x3.rv.ops.length : Int))) + (x3.rv.p.path.length : Int))) + (x3.op.p.path.length : Int))) + (r_zBlock x3.then_))) + (r_zBlock x3.else_)))) fun (v8 : Int) => (bnd (zBlock_b_l12 r_zBlock x3.arms v8) fun (v12 : Int) => zBlock_b_l3 r_zBlock xs3 v12))
def zBlock_b (r_zBlock : (List StmtD) → Int) (p0 : List StmtD) : Int :=
 (bnd (zBlock_b_l3 r_zBlock p0 0) fun (v3 : Int) => v3)
theorem w_zBlock_b (r_zBlock : (List StmtD) → Int) (p0 : List StmtD)  (D : Nat) (H_zBlock : ∀ (u0 : List StmtD), SizeOf.sizeOf u0 < D → QC prog 35 [.ro 21 (u0.map stmtC)] [] (.i .i64 (r_zBlock u0)) []) (hD : SizeOf.sizeOf p0 ≤ D) : QC prog 35 [.ro 21 (p0.map stmtC)] [] (.i .i64 (zBlock_b r_zBlock p0)) [] := by
 refine QC.of_body tabOK func35 rfl (by kernel_rfl) ?_
 simp only [f35]
 generalize e : zBlock_b r_zBlock p0 = R
 unfold zBlock_b at e
 refine SR ?_
 simp -implicitDefEqProofs
 refine SR ?_
 simp -implicitDefEqProofs
 refine EV.seq (SR ?_)
 simp -implicitDefEqProofs
 obtain ⟨z3, e3, e⟩ := bnd_split e
 refine EV.nrm (fun v : { v : (Int) × (Unit) // z3 = v.1 } => (fun (v3 : Int) (g3 : Unit) => (⟨[J, J, J, .i .i64 v3, J, J, J, J, J, J, J, J, J, J, J, J, J, J, J, J, J, J, J, J, J, J, J, J, J, J, J, J, J, J, J, J, J, J, J, J, J, J, J, J, J, J, J, J, J, J, J, J, J, J, J, J, J, J, J, J, J, J, J, J, J, J, J, J, J, J, J, J, J, J, J, J, J, J, J, J, J, J, J, J, J, J, J, J, J, J, J], []⟩ : St)) v.1.1 v.1.2) ?_ ?_
 ·skip
  refine EV.block ?_
  refine EV.loopB (fun x : { x : Nat × Int // x.1 ≤ p0.length ∧ zBlock_b_l3 r_zBlock (p0.drop x.1) x.2 = z3 } => (fun (j3 : Nat) (a3_0 : Int) => (⟨[.ro 21 (p0.map stmtC), J, J, .i .i64 a3_0, .i .i64 (j3 : Int), J, J, J, J, J, J, J, J, J, J, J, J, J, J, J, J, J, J, J, J, J, J, J, J, J, J, J, J, J, J, J, J, J, J, J, J, J, J, J, J, J, J, J, J, J, J, J, J, J, J, J, J, J, J, J, J, J, J, J, J, J, J, J, J, J, J, J, J, J, J, J, J, J, J, J, J, J, J, J, J, J, J, J, J, J, J], []⟩ : St)) x.1.1 x.1.2) (fun x => p0.length - x.1.1) ⟨(0, 0), Nat.zero_le _, e3⟩ ?_ ?_
  ·skip
   try dsimp only
   try dsimp only
   refine Sub.cutF 0 (by simp) ?_ ?_ <;> simp [List.range_succ, toIdx_range, passed]
  rintro ⟨⟨j3, a3_0⟩, hi3, e3⟩
  simp only at hi3 e3 ⊢
  refine EV.seq (SR ?_)
  simp -implicitDefEqProofs
  refine EV.room 0 (by rfl) (fun mj3 => ?_)
  simp at mj3
  refine EV.condT ?_
  simp -implicitDefEqProofs
  refine condT_intro (fun k1 => ?_) (fun k1 => ?_)
  ·try simp at k1
   have u1 : j3 < p0.length := by omega
   obtain ⟨x3, hx3⟩ : ∃ z, p0[j3] = z := ⟨_, rfl⟩
   have mx3 : x3 ∈ p0 := by rw [← hx3]; exact List.getElem_mem _
   have zzx3 := List.sizeOf_lt_of_mem mx3
   rw [List.drop_eq_getElem_cons u1, hx3, zBlock_b_l3] at e3
   refine EV.skip ?_
   simp only [KN1, KN2, KN3]
   refine EV.seq (EV.block (SR ?_))
   simp -implicitDefEqProofs [k1, u1, hx3]
   refine EV.seq ?_
   have := sz_StmtD_then_ x3
   have := sz_StmtD_else_ x3
   refine EV.drawG tabOK mixedOK ?_
   simp -implicitDefEqProofs [k1, u1, hx3]
   refine callG_fun (w_zTy x3.ty) ?_ ?_
   ·first | (simp; done) | (simp [k1, u1, hx3]; done)
   simp -implicitDefEqProofs [k1, u1, hx3]
   refine callG_fun (H_zBlock x3.then_ (by first | omega | (simp at *; omega))) ?_ ?_
   ·first | (simp; done) | (simp [k1, u1, hx3]; done)
   simp -implicitDefEqProofs [k1, u1, hx3]
   refine callG_fun (H_zBlock x3.else_ (by first | omega | (simp at *; omega))) ?_ ?_
   ·first | (simp; done) | (simp [k1, u1, hx3]; done)
   simp -implicitDefEqProofs [k1, u1, hx3]
   refine And.intro ?_ ?_
   ·first | decide +kernel | (simp -implicitDefEqProofs; decide +kernel) | (split <;> decide +kernel)
   try simp -implicitDefEqProofs
   refine EV.seq (SR ?_)
   simp -implicitDefEqProofs [k1, u1, hx3]
   obtain ⟨z8, e8, e3⟩ := bnd_split e3
   refine EV.nrm (fun v : { v : (Int) × (Unit) // z8 = v.1 } => (fun (v8 : Int) (g8 : Unit) => (⟨[.ro 21 (p0.map stmtC), J, J, .i .i64 v8, .i .i64 (j3 : Int), .ptr 0 0 0 0, J, J, J, J, J, J, J, J, J, J, J, J, J, J, J, J, J, J, J, J, J, J, J, J, J, J, J, J, J, J, J, J, J, J, J, J, J, J, J, J, J, J, J, J, J, J, J, J, J, J, J, J, J, J, J, J, J, J, J, J, J, J, J, J, J, J, J, J, J, J, J, J, J, J, J, J, J, J, J, J, J, J, J, J, J], [.arr 0 21 [[.i .i64 x3.k, .i .i64 x3.at_, .s x3.name, .i .i64 x3.ty.k, .s x3.ty.name, .ro 3 (x3.ty.l.map tyC), .s x3.p.name, .ro 1 (x3.p.path.map stepC), .i .i64 x3.rv.k, .ro 4 (x3.rv.ops.map operC), .s x3.rv.p.name, .ro 1 (x3.rv.p.path.map stepC), .s x3.rv.name, .s x3.rv.variant, .b x3.op.num, .i .i64 x3.op.n, .s x3.op.p.name, .ro 1 (x3.op.p.path.map stepC), .ro 21 (x3.then_.map stmtC), .ro 21 (x3.else_.map stmtC), .ro 3 (x3.arms.map armC)]]]⟩ : St)) v.1.1 v.1.2) ?_ ?_
   ·skip
    refine EV.block ?_
    refine EV.loopB (fun x : { x : Nat × Int // x.1 ≤ x3.rv.ops.length ∧ zBlock_b_l8 (x3.rv.ops.drop x.1) x.2 = z8 } => (fun (j8 : Nat) (a8_0 : Int) => (⟨[.ro 21 (p0.map stmtC), J, J, .i .i64 a8_0, .i .i64 (j3 : Int), .ptr 0 0 0 0, .i .i64 (j8 : Int), J, J, J, J, J, J, J, J, J, J, J, J, J, J, J, J, J, J, J, J, J, J, J, J, J, J, J, J, J, J, J, J, J, J, J, J, J, J, J, J, J, J, J, J, J, J, J, J, J, J, J, J, J, J, J, J, J, J, J, J, J, J, J, J, J, J, J, J, J, J, J, J, J, J, J, J, J, J, J, J, J, J, J, J], [.arr 0 21 [[.i .i64 x3.k, .i .i64 x3.at_, .s x3.name, .i .i64 x3.ty.k, .s x3.ty.name, .ro 3 (x3.ty.l.map tyC), .s x3.p.name, .ro 1 (x3.p.path.map stepC), .i .i64 x3.rv.k, .ro 4 (x3.rv.ops.map operC), .s x3.rv.p.name, .ro 1 (x3.rv.p.path.map stepC), .s x3.rv.name, .s x3.rv.variant, .b x3.op.num, .i .i64 x3.op.n, .s x3.op.p.name, .ro 1 (x3.op.p.path.map stepC), .ro 21 (x3.then_.map stmtC), .ro 21 (x3.else_.map stmtC), .ro 3 (x3.arms.map armC)]]]⟩ : St)) x.1.1 x.1.2) (fun x => x3.rv.ops.length - x.1.1) ⟨(0, (IntKind.i64.wrap ((IntKind.i64.wrap ((IntKind.i64.wrap ((IntKind.i64.wrap ((IntKind.i64.wrap ((IntKind.i64.wrap ((IntKind.i64.wrap ((IntKind.i64.wrap (a3_0 + 1)) + (zTy x3.ty))) + (x3.p.path.length : Int))) + (x3.rv.ops.length : Int))) + (x3.rv.p.path.length : Int))) + (x3.op.p.path.length : Int))) + (r_zBlock x3.then_))) + (r_zBlock x3.else_)))), Nat.zero_le _, e8⟩ ?_ ?_
    ·skip
     try dsimp only
     try dsimp only
     refine Sub.cutF 1 (by simp) ?_ ?_ <;> simp [List.range_succ, toIdx_range, passed, k1, u1, hx3]
    rintro ⟨⟨j8, a8_0⟩, hi8, e8⟩
    simp only at hi8 e8 ⊢
    refine EV.seq (SR ?_)
    simp -implicitDefEqProofs [k1, u1, hx3]
    refine EV.room 57 (by rfl) (fun mj8 => ?_)
    simp at mj8
    refine EV.condT ?_
    simp -implicitDefEqProofs [k1, u1, hx3]
    refine condT_intro (fun k2 => ?_) (fun k2 => ?_)
    ·try simp at k2
     have u2 : j8 < x3.rv.ops.length := by omega
     obtain ⟨x8, hx8⟩ : ∃ z, x3.rv.ops[j8] = z := ⟨_, rfl⟩
     have mx8 : x8 ∈ x3.rv.ops := by rw [← hx8]; exact List.getElem_mem _
     have zzx8 := List.sizeOf_lt_of_mem mx8
     rw [List.drop_eq_getElem_cons u2, hx8, zBlock_b_l8] at e8
     refine EV.skip ?_
     simp only [KN1, KN2, KN3]
     refine EV.seq (EV.block (RG ?_))
     simp -implicitDefEqProofs [k1, u1, hx3, k2, u2, hx8]
     refine RG ?_
     simp -implicitDefEqProofs [k1, u1, hx3, k2, u2, hx8]
     have w8 : IntKind.i64.wrap ((j8 : Int) + 1) = (j8 : Int) + 1 := wrap_in _ (by omega) (by omega)
     refine ⟨⟨(j8 + 1, (IntKind.i64.wrap (a8_0 + (x8.p.path.length : Int)))), by omega, e8⟩, by dsimp only; omega, ?_⟩
     try dsimp only
     refine Sub.cutF 1 (by simp) ?_ ?_ <;> simp [List.range_succ, toIdx_range, passed, k1, u1, hx3, k2, u2, hx8, w8]
    try simp at k2
    have d2 : x3.rv.ops.drop j8 = [] := List.drop_eq_nil_of_le (by omega)
    rw [d2, zBlock_b_l8] at e8
    refine EV.exit ?_
    simp -implicitDefEqProofs
    refine ⟨⟨(a8_0, ()), e8.symm⟩, ?_⟩
    try dsimp only
    refine Sub.cutF 1 (by simp) ?_ ?_ <;> simp [List.range_succ, toIdx_range, passed, k1, u1, hx3]
   rintro ⟨⟨v8, g8⟩, e8⟩
   simp only [KN1, KN2, KN3, KN4]
   replace e3 := bnd_on e3 e8
   try dsimp only at e3
   refine SR ?_
   simp -implicitDefEqProofs [k1, u1, hx3]
   obtain ⟨z12, e12, e3⟩ := bnd_split e3
   refine EV.nrm (fun v : { v : (Int) × (Unit) // z12 = v.1 } => (fun (v12 : Int) (g12 : Unit) => (⟨[.ro 21 (p0.map stmtC), J, J, .i .i64 v12, .i .i64 (j3 : Int), J, J, J, J, J, J, J, J, J, J, J, J, J, J, J, J, J, J, J, J, J, J, J, J, J, J, J, J, J, J, J, J, J, J, J, J, J, J, J, J, J, J, J, J, J, J, J, J, J, J, J, J, J, J, J, J, J, J, J, J, J, J, J, J, J, J, J, J, J, J, J, J, J, J, J, J, J, J, J, J, J, J, J, J, J, J], []⟩ : St)) v.1.1 v.1.2) ?_ ?_
   ·skip
    refine EV.block ?_
    refine EV.loopB (fun x : { x : Nat × Int // x.1 ≤ x3.arms.length ∧ zBlock_b_l12 r_zBlock (x3.arms.drop x.1) x.2 = z12 } => (fun (j12 : Nat) (a12_0 : Int) => (⟨[.ro 21 (p0.map stmtC), J, J, .i .i64 a12_0, .i .i64 (j3 : Int), .ptr 0 0 0 0, J, .i .i64 (j12 : Int), J, J, J, J, J, J, J, J, J, J, J, J, J, J, J, J, J, J, J, J, J, J, J, J, J, J, J, J, J, J, J, J, J, J, J, J, J, J, J, J, J, J, J, J, J, J, J, J, J, J, J, J, J, J, J, J, J, J, J, J, J, J, J, J, J, J, J, J, J, J, J, J, J, J, J, J, J, J, J, J, J, J, J], [.arr 0 21 [[.i .i64 x3.k, .i .i64 x3.at_, .s x3.name, .i .i64 x3.ty.k, .s x3.ty.name, .ro 3 (x3.ty.l.map tyC), .s x3.p.name, .ro 1 (x3.p.path.map stepC), .i .i64 x3.rv.k, .ro 4 (x3.rv.ops.map operC), .s x3.rv.p.name, .ro 1 (x3.rv.p.path.map stepC), .s x3.rv.name, .s x3.rv.variant, .b x3.op.num, .i .i64 x3.op.n, .s x3.op.p.name, .ro 1 (x3.op.p.path.map stepC), .ro 21 (x3.then_.map stmtC), .ro 21 (x3.else_.map stmtC), .ro 3 (x3.arms.map armC)]]]⟩ : St)) x.1.1 x.1.2) (fun x => x3.arms.length - x.1.1) ⟨(0, v8), Nat.zero_le _, e12⟩ ?_ ?_
    ·skip
     try dsimp only
     try dsimp only
     refine Sub.cutF 1 (by simp) ?_ ?_ <;> simp [List.range_succ, toIdx_range, passed, k1, u1, hx3]
    rintro ⟨⟨j12, a12_0⟩, hi12, e12⟩
    simp only at hi12 e12 ⊢
    refine EV.seq (SR ?_)
    simp -implicitDefEqProofs [k1, u1, hx3]
    refine EV.room 75 (by rfl) (fun mj12 => ?_)
    simp at mj12
    refine EV.condT ?_
    simp -implicitDefEqProofs [k1, u1, hx3]
    refine condT_intro (fun k3 => ?_) (fun k3 => ?_)
    ·try simp at k3
     have u3 : j12 < x3.arms.length := by omega
     obtain ⟨x12, hx12⟩ : ∃ z, x3.arms[j12] = z := ⟨_, rfl⟩
     have mx12 : x12 ∈ x3.arms := by rw [← hx12]; exact List.getElem_mem _
     have zzx12 := List.sizeOf_lt_of_mem mx12
     have := sz_StmtD_arms x3
     rw [List.drop_eq_getElem_cons u3, hx12, zBlock_b_l12] at e12
     refine EV.skip ?_
     simp only [KN1, KN2, KN3]
     refine EV.seq (EV.block ?_)
     have := sz_ArmD_body x12
     refine RG ?_
     simp -implicitDefEqProofs [k1, u1, hx3, k3, u3, hx12]
     refine callG_fun (H_zBlock x12.body (by first | omega | (simp at *; omega))) ?_ ?_
     ·first | (simp; done) | (simp [k1, u1, hx3, k3, u3, hx12]; done)
     simp -implicitDefEqProofs [k1, u1, hx3, k3, u3, hx12]
     refine RG ?_
     simp -implicitDefEqProofs [k1, u1, hx3, k3, u3, hx12]
     have w12 : IntKind.i64.wrap ((j12 : Int) + 1) = (j12 : Int) + 1 := wrap_in _ (by omega) (by omega)
     refine ⟨⟨(j12 + 1, (IntKind.i64.wrap ((IntKind.i64.wrap (a12_0 + 1)) + (r_zBlock x12.body)))), by omega, e12⟩, by dsimp only; omega, ?_⟩
     try dsimp only
     refine Sub.cutF 1 (by simp) ?_ ?_ <;> simp [List.range_succ, toIdx_range, passed, k1, u1, hx3, k3, u3, hx12, w12]
    try simp at k3
    have d3 : x3.arms.drop j12 = [] := List.drop_eq_nil_of_le (by omega)
    rw [d3, zBlock_b_l12] at e12
    refine EV.exit ?_
    simp -implicitDefEqProofs
    refine ⟨⟨(a12_0, ()), e12.symm⟩, ?_⟩
    try dsimp only
    refine Sub.cutF 0 (by simp) ?_ ?_ <;> simp [List.range_succ, toIdx_range, passed, k1, u1, hx3]
   rintro ⟨⟨v12, g12⟩, e12⟩
   simp only [KN1, KN2, KN3, KN4]
   replace e3 := bnd_on e3 e12
   try dsimp only at e3
   refine RG ?_
   simp -implicitDefEqProofs [k1, u1, hx3]
   have w3 : IntKind.i64.wrap ((j3 : Int) + 1) = (j3 : Int) + 1 := wrap_in _ (by omega) (by omega)
   refine ⟨⟨(j3 + 1, v12), by omega, e3⟩, by dsimp only; omega, ?_⟩
   try dsimp only
   refine Sub.cutF 0 (by simp) ?_ ?_ <;> simp [List.range_succ, toIdx_range, passed, k1, u1, hx3, w3]
  try simp at k1
  have d1 : p0.drop j3 = [] := List.drop_eq_nil_of_le (by omega)
  rw [d1, zBlock_b_l3] at e3
  refine EV.exit ?_
  simp -implicitDefEqProofs
  refine ⟨⟨(a3_0, ()), e3.symm⟩, ?_⟩
  try dsimp only
  refine Sub.cutF 0 (by simp) ?_ ?_ <;> simp [List.range_succ, toIdx_range, passed]
 rintro ⟨⟨v3, g3⟩, e3⟩
 simp only [KN1, KN2, KN3, KN4]
 replace e := bnd_on e e3
 try dsimp only at e
 refine SR ?_
 simp -implicitDefEqProofs
 refine EV.ret ?_
 simp only [KR1, KR2, KR3, KR4]
 subst e
 refine Fin.pure0 ?_
 first | (simp; done) | (simp <;> grind)

def zBlock_f : Nat → (List StmtD) → Int
 | 0, _ => default
 | k + 1, p0 => zBlock_b (zBlock_f k) p0
def zBlock (p0 : List StmtD) : Int := zBlock_f (SizeOf.sizeOf p0 + 1) p0
theorem w_zBlock_f : ∀ k : Nat, (∀ (p0 : List StmtD), SizeOf.sizeOf p0 < k → QC prog 35 [.ro 21 (p0.map stmtC)] [] (.i .i64 (zBlock_f k p0)) [])
 | 0 => by refine (fun _ h => absurd h (Nat.not_lt_zero _))
 | k + 1 => by refine (fun p0 h => by rw [zBlock_f]; exact w_zBlock_b (zBlock_f k) p0 k (w_zBlock_f k) (by omega))
theorem w_zBlock (p0 : List StmtD) : QC prog 35 [.ro 21 (p0.map stmtC)] [] (.i .i64 (zBlock p0)) [] := (w_zBlock_f (SizeOf.sizeOf p0 + 1)) p0 (Nat.lt_succ_self _)
def zLarge_l3  : List StructD → Int → Int
 | [], a3_0 => a3_0
 | x3 :: xs3, a3_0 => zLarge_l3 xs3 (IntKind.i64.wrap (a3_0 + (zField x3.fields)))
def zLarge_l10  : List VariantD → Int → Int
 | [], a10_0 => a10_0
 | x10 :: xs10, a10_0 => zLarge_l10 xs10 (IntKind.i64.wrap ((IntKind.i64.wrap (a10_0 + 1)) + (zTy x10.ty)))
def zLarge_l7  : List EnumD → Int → Int
 | [], a7_0 => a7_0
 | x7 :: xs7, a7_0 => (bnd (zLarge_l10 x7.variants a7_0) fun (v10 : Int) => zLarge_l7 xs7 v10)
def zLarge_l14  : List FnD → Int → Int
 | [], a14_0 => a14_0
 | x14 :: xs14, a14_0 => zLarge_l14 xs14 (IntKind.i64.wrap ((IntKind.i64.wrap (a14_0 + (zField x14.params))) + (zBlock x14.body)))
def zLarge (p0 : SourceD) (p1 : Int) : Bool :=
 (bnd (zLarge_l3 p0.structs (IntKind.i64.wrap ((IntKind.i64.wrap ((p0.structs.length : Int) + (p0.enums.length : Int))) + (p0.fns.length : Int)))) fun (v3 : Int) => (bnd (zLarge_l7 p0.enums v3) fun (v7 : Int) => (bnd (zLarge_l14 p0.fns v7) fun (v14 : Int) => (decide (p1 < v14)))))
theorem w_zLarge (p0 : SourceD) (p1 : Int)  : QC prog 11 [.agg [.ro 4 (p0.structs.map structC), .ro 3 (p0.enums.map enumC), .ro 4 (p0.fns.map fnC)], .i .i64 p1] [] (.b (zLarge p0 p1)) [] := by
 refine QC.of_body tabOK func11 rfl (by kernel_rfl) ?_
 simp only [f11]
 generalize e : zLarge p0 p1 = R
 unfold zLarge at e
 refine SR ?_
 simp -implicitDefEqProofs
 refine SR ?_
 simp -implicitDefEqProofs
 refine EV.seq (SR ?_)
 simp -implicitDefEqProofs
 obtain ⟨z3, e3, e⟩ := bnd_split e
 refine EV.nrm (fun v : { v : (Int) × (Unit) // z3 = v.1 } => (fun (v3 : Int) (g3 : Unit) => (⟨[J, .i .i64 p1, .ptr 0 0 0 0, J, J, .i .i64 v3, J, J, J, J, J, J, J, J, J, J, J, J, J, J, J, J, J, J, J, J, J, J, J, J, J, J, J, J, J, J, J, J, J, J, J, J, J, J, J, J, J, J, J, J, J, J, J, J, J, J, J, J, J, J, J, J, J, J, J, J, J, J, J, J, J, J, J, J, J, J, J, J, J, J, J, J, J, J, J, J, J, J, J, J, J, J, J, J, J, J], [.arr 0 3 [[.ro 4 (p0.structs.map structC), .ro 3 (p0.enums.map enumC), .ro 4 (p0.fns.map fnC)]]]⟩ : St)) v.1.1 v.1.2) ?_ ?_
 ·skip
  refine EV.block ?_
  refine EV.loopB (fun x : { x : Nat × Int // x.1 ≤ p0.structs.length ∧ zLarge_l3 (p0.structs.drop x.1) x.2 = z3 } => (fun (j3 : Nat) (a3_0 : Int) => (⟨[J, .i .i64 p1, .ptr 0 0 0 0, J, J, .i .i64 a3_0, .i .i64 (j3 : Int), J, J, J, J, J, J, J, J, J, J, J, J, J, J, J, J, J, J, J, J, J, J, J, J, J, J, J, J, J, J, J, J, J, J, J, J, J, J, J, J, J, J, J, J, J, J, J, J, J, J, J, J, J, J, J, J, J, J, J, J, J, J, J, J, J, J, J, J, J, J, J, J, J, J, J, J, J, J, J, J, J, J, J, J, J, J, J, J, J], [.arr 0 3 [[.ro 4 (p0.structs.map structC), .ro 3 (p0.enums.map enumC), .ro 4 (p0.fns.map fnC)]]]⟩ : St)) x.1.1 x.1.2) (fun x => p0.structs.length - x.1.1) ⟨(0, (IntKind.i64.wrap ((IntKind.i64.wrap ((p0.structs.length : Int) + (p0.enums.length : Int))) + (p0.fns.length : Int)))), Nat.zero_le _, e3⟩ ?_ ?_
  ·skip
   try dsimp only
   try dsimp only
   refine Sub.cutF 1 (by simp) ?_ ?_ <;> simp [List.range_succ, toIdx_range, passed]
  rintro ⟨⟨j3, a3_0⟩, hi3, e3⟩
  simp only at hi3 e3 ⊢
  refine EV.seq (SR ?_)
  simp -implicitDefEqProofs
  refine EV.room 23 (by rfl) (fun mj3 => ?_)
  simp at mj3
  refine EV.condT ?_
  simp -implicitDefEqProofs
  refine condT_intro (fun k1 => ?_) (fun k1 => ?_)
  ·try simp at k1
   have u1 : j3 < p0.structs.length := by omega
   obtain ⟨x3, hx3⟩ : ∃ z, p0.structs[j3] = z := ⟨_, rfl⟩
   have mx3 : x3 ∈ p0.structs := by rw [← hx3]; exact List.getElem_mem _
   rw [List.drop_eq_getElem_cons u1, hx3, zLarge_l3] at e3
   refine EV.skip ?_
   simp only [KN1, KN2, KN3]
   refine EV.seq (EV.block (RG ?_))
   simp -implicitDefEqProofs [k1, u1, hx3]
   refine callG_fun (w_zField x3.fields) ?_ ?_
   ·first | (simp; done) | (simp [k1, u1, hx3]; done)
   simp -implicitDefEqProofs [k1, u1, hx3]
   refine RG ?_
   simp -implicitDefEqProofs [k1, u1, hx3]
   have w3 : IntKind.i64.wrap ((j3 : Int) + 1) = (j3 : Int) + 1 := wrap_in _ (by omega) (by omega)
   refine ⟨⟨(j3 + 1, (IntKind.i64.wrap (a3_0 + (zField x3.fields)))), by omega, e3⟩, by dsimp only; omega, ?_⟩
   try dsimp only
   refine Sub.cutF 1 (by simp) ?_ ?_ <;> simp [List.range_succ, toIdx_range, passed, k1, u1, hx3, w3]
  try simp at k1
  have d1 : p0.structs.drop j3 = [] := List.drop_eq_nil_of_le (by omega)
  rw [d1, zLarge_l3] at e3
  refine EV.exit ?_
  simp -implicitDefEqProofs
  refine ⟨⟨(a3_0, ()), e3.symm⟩, ?_⟩
  try dsimp only
  refine Sub.cutF 1 (by simp) ?_ ?_ <;> simp [List.range_succ, toIdx_range, passed]
 ·skip
  rintro ⟨⟨v3, g3⟩, e3⟩
  simp only [KN1, KN2, KN3, KN4]
  replace e := bnd_on e e3
  try dsimp only at e
  refine EV.seq (SR ?_)
  simp -implicitDefEqProofs
  obtain ⟨z7, e7, e⟩ := bnd_split e
  refine EV.nrm (fun v : { v : (Int) × (Unit) // z7 = v.1 } => (fun (v7 : Int) (g7 : Unit) => (⟨[J, .i .i64 p1, .ptr 0 0 0 0, J, J, .i .i64 v7, J, J, J, J, J, J, J, J, J, J, J, J, J, J, J, J, J, J, J, J, J, J, J, J, J, J, J, J, J, J, J, J, J, J, J, J, J, J, J, J, J, J, J, J, J, J, J, J, J, J, J, J, J, J, J, J, J, J, J, J, J, J, J, J, J, J, J, J, J, J, J, J, J, J, J, J, J, J, J, J, J, J, J, J, J, J, J, J, J, J], [.arr 0 3 [[.ro 4 (p0.structs.map structC), .ro 3 (p0.enums.map enumC), .ro 4 (p0.fns.map fnC)]]]⟩ : St)) v.1.1 v.1.2) ?_ ?_
  ·skip
   refine EV.block ?_
   refine EV.loopB (fun x : { x : Nat × Int // x.1 ≤ p0.enums.length ∧ zLarge_l7 (p0.enums.drop x.1) x.2 = z7 } => (fun (j7 : Nat) (a7_0 : Int) => (⟨[J, .i .i64 p1, .ptr 0 0 0 0, J, J, .i .i64 a7_0, J, .i .i64 (j7 : Int), J, J, J, J, J, J, J, J, J, J, J, J, J, J, J, J, J, J, J, J, J, J, J, J, J, J, J, J, J, J, J, J, J, J, J, J, J, J, J, J, J, J, J, J, J, J, J, J, J, J, J, J, J, J, J, J, J, J, J, J, J, J, J, J, J, J, J, J, J, J, J, J, J, J, J, J, J, J, J, J, J, J, J, J, J, J, J, J], [.arr 0 3 [[.ro 4 (p0.structs.map structC), .ro 3 (p0.enums.map enumC), .ro 4 (p0.fns.map fnC)]]]⟩ : St)) x.1.1 x.1.2) (fun x => p0.enums.length - x.1.1) ⟨(0, v3), Nat.zero_le _, e7⟩ ?_ ?_
   ·skip
    try dsimp only
    try dsimp only
    refine Sub.cutF 1 (by simp) ?_ ?_ <;> simp [List.range_succ, toIdx_range, passed]
   rintro ⟨⟨j7, a7_0⟩, hi7, e7⟩
   simp only at hi7 e7 ⊢
   refine EV.seq (SR ?_)
   simp -implicitDefEqProofs
   refine EV.room 39 (by rfl) (fun mj7 => ?_)
   simp at mj7
   refine EV.condT ?_
   simp -implicitDefEqProofs
   refine condT_intro (fun k2 => ?_) (fun k2 => ?_)
   ·try simp at k2
    have u2 : j7 < p0.enums.length := by omega
    obtain ⟨x7, hx7⟩ : ∃ z, p0.enums[j7] = z := ⟨_, rfl⟩
    have mx7 : x7 ∈ p0.enums := by rw [← hx7]; exact List.getElem_mem _
    rw [List.drop_eq_getElem_cons u2, hx7, zLarge_l7] at e7
    refine EV.skip ?_
    simp only [KN1, KN2, KN3]
    refine EV.seq (EV.block (SR ?_))
    simp -implicitDefEqProofs [k2, u2, hx7]
    obtain ⟨z10, e10, e7⟩ := bnd_split e7
    refine EV.nrm (fun v : { v : (Int) × (Unit) // z10 = v.1 } => (fun (v10 : Int) (g10 : Unit) => (⟨[J, .i .i64 p1, .ptr 0 0 0 0, J, J, .i .i64 v10, J, .i .i64 (j7 : Int), J, J, J, J, J, J, J, J, J, J, J, J, J, J, J, J, J, J, J, J, J, J, J, J, J, J, J, J, J, J, J, J, J, J, J, J, J, J, J, J, J, J, J, J, J, J, J, J, J, J, J, J, J, J, J, J, J, J, J, J, J, J, J, J, J, J, J, J, J, J, J, J, J, J, J, J, J, J, J, J, J, J, J, J, J, J, J, J], [.arr 0 3 [[.ro 4 (p0.structs.map structC), .ro 3 (p0.enums.map enumC), .ro 4 (p0.fns.map fnC)]]]⟩ : St)) v.1.1 v.1.2) ?_ ?_
    ·skip
     refine EV.block ?_
     refine EV.loopB (fun x : { x : Nat × Int // x.1 ≤ x7.variants.length ∧ zLarge_l10 (x7.variants.drop x.1) x.2 = z10 } => (fun (j10 : Nat) (a10_0 : Int) => (⟨[J, .i .i64 p1, .ptr 0 0 0 0, J, J, .i .i64 a10_0, J, .i .i64 (j7 : Int), .i .i64 (j10 : Int), J, J, J, J, J, J, J, J, J, J, J, J, J, J, J, J, J, J, J, J, J, J, J, J, J, J, J, J, J, J, J, J, J, J, J, J, J, J, J, J, J, J, J, J, J, J, J, J, J, J, J, J, J, J, J, J, J, J, J, J, J, J, J, J, J, J, J, J, J, J, J, J, J, J, J, J, J, J, J, J, J, J, J, J, J, J, J], [.arr 0 3 [[.ro 4 (p0.structs.map structC), .ro 3 (p0.enums.map enumC), .ro 4 (p0.fns.map fnC)]]]⟩ : St)) x.1.1 x.1.2) (fun x => x7.variants.length - x.1.1) ⟨(0, a7_0), Nat.zero_le _, e10⟩ ?_ ?_
     ·skip
      try dsimp only
      try dsimp only
      refine Sub.cutF 1 (by simp) ?_ ?_ <;> simp [List.range_succ, toIdx_range, passed, k2, u2, hx7]
     rintro ⟨⟨j10, a10_0⟩, hi10, e10⟩
     simp only at hi10 e10 ⊢
     refine EV.seq (SR ?_)
     simp -implicitDefEqProofs [k2, u2, hx7]
     refine EV.room 50 (by rfl) (fun mj10 => ?_)
     simp at mj10
     refine EV.condT ?_
     simp -implicitDefEqProofs [k2, u2, hx7]
     refine condT_intro (fun k3 => ?_) (fun k3 => ?_)
     ·try simp at k3
      have u3 : j10 < x7.variants.length := by omega
      obtain ⟨x10, hx10⟩ : ∃ z, x7.variants[j10] = z := ⟨_, rfl⟩
      have mx10 : x10 ∈ x7.variants := by rw [← hx10]; exact List.getElem_mem _
      rw [List.drop_eq_getElem_cons u3, hx10, zLarge_l10] at e10
      refine EV.skip ?_
      simp only [KN1, KN2, KN3]
      refine EV.seq (EV.block (RG ?_))
      simp -implicitDefEqProofs [k2, u2, hx7, k3, u3, hx10]
      refine callG_fun (w_zTy x10.ty) ?_ ?_
      ·first | (simp; done) | (simp [k2, u2, hx7, k3, u3, hx10]; done)
      simp -implicitDefEqProofs [k2, u2, hx7, k3, u3, hx10]
      refine RG ?_
      simp -implicitDefEqProofs [k2, u2, hx7, k3, u3, hx10]
      have w10 : IntKind.i64.wrap ((j10 : Int) + 1) = (j10 : Int) + 1 := wrap_in _ (by omega) (by omega)
      refine ⟨⟨(j10 + 1, (IntKind.i64.wrap ((IntKind.i64.wrap (a10_0 + 1)) + (zTy x10.ty)))), by omega, e10⟩, by dsimp only; omega, ?_⟩
      try dsimp only
      refine Sub.cutF 1 (by simp) ?_ ?_ <;> simp [List.range_succ, toIdx_range, passed, k2, u2, hx7, k3, u3, hx10, w10]
     try simp at k3
     have d3 : x7.variants.drop j10 = [] := List.drop_eq_nil_of_le (by omega)
     rw [d3, zLarge_l10] at e10
     refine EV.exit ?_
     simp -implicitDefEqProofs
     refine ⟨⟨(a10_0, ()), e10.symm⟩, ?_⟩
     try dsimp only
     refine Sub.cutF 1 (by simp) ?_ ?_ <;> simp [List.range_succ, toIdx_range, passed, k2, u2, hx7]
    rintro ⟨⟨v10, g10⟩, e10⟩
    simp only [KN1, KN2, KN3, KN4]
    replace e7 := bnd_on e7 e10
    try dsimp only at e7
    refine RG ?_
    simp -implicitDefEqProofs [k2, u2, hx7]
    have w7 : IntKind.i64.wrap ((j7 : Int) + 1) = (j7 : Int) + 1 := wrap_in _ (by omega) (by omega)
    refine ⟨⟨(j7 + 1, v10), by omega, e7⟩, by dsimp only; omega, ?_⟩
    try dsimp only
    refine Sub.cutF 1 (by simp) ?_ ?_ <;> simp [List.range_succ, toIdx_range, passed, k2, u2, hx7, w7]
   try simp at k2
   have d2 : p0.enums.drop j7 = [] := List.drop_eq_nil_of_le (by omega)
   rw [d2, zLarge_l7] at e7
   refine EV.exit ?_
   simp -implicitDefEqProofs
   refine ⟨⟨(a7_0, ()), e7.symm⟩, ?_⟩
   try dsimp only
   refine Sub.cutF 1 (by simp) ?_ ?_ <;> simp [List.range_succ, toIdx_range, passed]
  ·skip
   rintro ⟨⟨v7, g7⟩, e7⟩
   simp only [KN1, KN2, KN3, KN4]
   replace e := bnd_on e e7
   try dsimp only at e
   refine EV.seq (SR ?_)
   simp -implicitDefEqProofs
   obtain ⟨z14, e14, e⟩ := bnd_split e
   refine EV.nrm (fun v : { v : (Int) × (Unit) // z14 = v.1 } => (fun (v14 : Int) (g14 : Unit) => (⟨[J, .i .i64 p1, J, J, J, .i .i64 v14, J, J, J, J, J, J, J, J, J, J, J, J, J, J, J, J, J, J, J, J, J, J, J, J, J, J, J, J, J, J, J, J, J, J, J, J, J, J, J, J, J, J, J, J, J, J, J, J, J, J, J, J, J, J, J, J, J, J, J, J, J, J, J, J, J, J, J, J, J, J, J, J, J, J, J, J, J, J, J, J, J, J, J, J, J, J, J, J, J, J], []⟩ : St)) v.1.1 v.1.2) ?_ ?_
   ·skip
    refine EV.block ?_
    refine EV.loopB (fun x : { x : Nat × Int // x.1 ≤ p0.fns.length ∧ zLarge_l14 (p0.fns.drop x.1) x.2 = z14 } => (fun (j14 : Nat) (a14_0 : Int) => (⟨[J, .i .i64 p1, .ptr 0 0 0 0, J, J, .i .i64 a14_0, J, J, J, .i .i64 (j14 : Int), J, J, J, J, J, J, J, J, J, J, J, J, J, J, J, J, J, J, J, J, J, J, J, J, J, J, J, J, J, J, J, J, J, J, J, J, J, J, J, J, J, J, J, J, J, J, J, J, J, J, J, J, J, J, J, J, J, J, J, J, J, J, J, J, J, J, J, J, J, J, J, J, J, J, J, J, J, J, J, J, J, J, J, J, J, J], [.arr 0 3 [[.ro 4 (p0.structs.map structC), .ro 3 (p0.enums.map enumC), .ro 4 (p0.fns.map fnC)]]]⟩ : St)) x.1.1 x.1.2) (fun x => p0.fns.length - x.1.1) ⟨(0, v7), Nat.zero_le _, e14⟩ ?_ ?_
    ·skip
     try dsimp only
     try dsimp only
     refine Sub.cutF 1 (by simp) ?_ ?_ <;> simp [List.range_succ, toIdx_range, passed]
    rintro ⟨⟨j14, a14_0⟩, hi14, e14⟩
    simp only at hi14 e14 ⊢
    refine EV.seq (SR ?_)
    simp -implicitDefEqProofs
    refine EV.room 71 (by rfl) (fun mj14 => ?_)
    simp at mj14
    refine EV.condT ?_
    simp -implicitDefEqProofs
    refine condT_intro (fun k4 => ?_) (fun k4 => ?_)
    ·try simp at k4
     have u4 : j14 < p0.fns.length := by omega
     obtain ⟨x14, hx14⟩ : ∃ z, p0.fns[j14] = z := ⟨_, rfl⟩
     have mx14 : x14 ∈ p0.fns := by rw [← hx14]; exact List.getElem_mem _
     rw [List.drop_eq_getElem_cons u4, hx14, zLarge_l14] at e14
     refine EV.skip ?_
     simp only [KN1, KN2, KN3]
     refine EV.seq (EV.block (EV.drawG tabOK mixedOK ?_))
     simp -implicitDefEqProofs [k4, u4, hx14]
     refine callG_fun (w_zField x14.params) ?_ ?_
     ·first | (simp; done) | (simp [k4, u4, hx14]; done)
     simp -implicitDefEqProofs [k4, u4, hx14]
     refine callG_fun (w_zBlock x14.body) ?_ ?_
     ·first | (simp; done) | (simp [k4, u4, hx14]; done)
     simp -implicitDefEqProofs [k4, u4, hx14]
     refine And.intro ?_ ?_
     ·first | decide +kernel | (simp -implicitDefEqProofs; decide +kernel) | (split <;> decide +kernel)
     try simp -implicitDefEqProofs
     refine RG ?_
     simp -implicitDefEqProofs [k4, u4, hx14]
     have w14 : IntKind.i64.wrap ((j14 : Int) + 1) = (j14 : Int) + 1 := wrap_in _ (by omega) (by omega)
     refine ⟨⟨(j14 + 1, (IntKind.i64.wrap ((IntKind.i64.wrap (a14_0 + (zField x14.params))) + (zBlock x14.body)))), by omega, e14⟩, by dsimp only; omega, ?_⟩
     try dsimp only
     refine Sub.cutF 1 (by simp) ?_ ?_ <;> simp [List.range_succ, toIdx_range, passed, k4, u4, hx14, w14]
    try simp at k4
    have d4 : p0.fns.drop j14 = [] := List.drop_eq_nil_of_le (by omega)
    rw [d4, zLarge_l14] at e14
    refine EV.exit ?_
    simp -implicitDefEqProofs
    refine ⟨⟨(a14_0, ()), e14.symm⟩, ?_⟩
    try dsimp only
    refine Sub.cutF 0 (by simp) ?_ ?_ <;> simp [List.range_succ, toIdx_range, passed]
   ·skip
    rintro ⟨⟨v14, g14⟩, e14⟩
    simp only [KN1, KN2, KN3, KN4]
    replace e := bnd_on e e14
    try dsimp only at e
    refine SR ?_
    simp -implicitDefEqProofs
    refine EV.ret ?_
    simp only [KR1, KR2, KR3, KR4]
    subst e
    refine Fin.pure0 ?_
    first | (simp; done) | (simp <;> grind)
end
end Go.Proofs.Tryz
end
