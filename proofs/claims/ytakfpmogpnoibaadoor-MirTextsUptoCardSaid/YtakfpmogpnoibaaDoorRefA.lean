/- The data that the laws speak of; contracts of the document's functions: kinds, spots, uses. -/
import Derived.Test.YtakfpmogpnoibaaDoorChecked
import Derived.Test.YtakfpmogpnoibaaDoorMachD
set_option linter.unusedVariables false
set_option linter.unusedSimpArgs false
set_option linter.constructorNameAsVariable false
section
namespace Go.Proofs.Tryd
open Go Go.AM
structure TyD where
  k : Int
  name : List UInt8
  l : List TyD
instance : Inhabited TyD := ⟨⟨0, [], []⟩⟩
mutual
def tyC : TyD → List V
  | ⟨k, name, l⟩ => [.i .i64 k, .s name, .ro 3 (tyCs l)]
def tyCs : List TyD → List (List V)
  | [] => []
  | t :: ts => tyC t :: tyCs ts
end
theorem tyCs_map : ∀ l, tyCs l = l.map tyC
  | [] => by rw [tyCs]; rfl
  | t :: ts => by rw [tyCs, tyCs_map ts]; rfl
theorem tyC_eq (t : TyD) : tyC t = [.i .i64 t.k, .s t.name, .ro 3 (t.l.map tyC)] := by
  obtain ⟨k, name, l⟩ := t
  rw [tyC]; simp only [tyCs_map]
structure FieldD where
  name : List UInt8
  ty : TyD
instance : Inhabited FieldD := ⟨⟨[], default⟩⟩
def fieldC (t : FieldD) : List V := [.s t.name, .i .i64 t.ty.k, .s t.ty.name, .ro 3 (t.ty.l.map tyC)]
theorem fieldC_eq (t : FieldD) : fieldC t = [.s t.name, .i .i64 t.ty.k, .s t.ty.name, .ro 3 (t.ty.l.map tyC)] := rfl
structure StructD where
  name : List UInt8
  drop_ : Bool
  fields : List FieldD
  at_ : Int
instance : Inhabited StructD := ⟨⟨[], false, [], 0⟩⟩
def structC (t : StructD) : List V := [.s t.name, .b t.drop_, .ro 4 (t.fields.map fieldC), .i .i64 t.at_]
theorem structC_eq (t : StructD) : structC t = [.s t.name, .b t.drop_, .ro 4 (t.fields.map fieldC), .i .i64 t.at_] := rfl
structure VariantD where
  name : List UInt8
  ty : TyD
instance : Inhabited VariantD := ⟨⟨[], default⟩⟩
def variantC (t : VariantD) : List V := [.s t.name, .i .i64 t.ty.k, .s t.ty.name, .ro 3 (t.ty.l.map tyC)]
theorem variantC_eq (t : VariantD) : variantC t = [.s t.name, .i .i64 t.ty.k, .s t.ty.name, .ro 3 (t.ty.l.map tyC)] := rfl
structure EnumD where
  name : List UInt8
  variants : List VariantD
  at_ : Int
instance : Inhabited EnumD := ⟨⟨[], [], 0⟩⟩
def enumC (t : EnumD) : List V := [.s t.name, .ro 4 (t.variants.map variantC), .i .i64 t.at_]
theorem enumC_eq (t : EnumD) : enumC t = [.s t.name, .ro 4 (t.variants.map variantC), .i .i64 t.at_] := rfl
structure StepD where
  field : List UInt8
instance : Inhabited StepD := ⟨⟨[]⟩⟩
def stepC (t : StepD) : List V := [.s t.field]
theorem stepC_eq (t : StepD) : stepC t = [.s t.field] := rfl
structure PlaceD where
  name : List UInt8
  path : List StepD
instance : Inhabited PlaceD := ⟨⟨[], []⟩⟩
def placeC (t : PlaceD) : List V := [.s t.name, .ro 1 (t.path.map stepC)]
theorem placeC_eq (t : PlaceD) : placeC t = [.s t.name, .ro 1 (t.path.map stepC)] := rfl
structure OperD where
  num : Bool
  n : Int
  p : PlaceD
instance : Inhabited OperD := ⟨⟨false, 0, default⟩⟩
def operC (t : OperD) : List V := [.b t.num, .i .i64 t.n, .s t.p.name, .ro 1 (t.p.path.map stepC)]
theorem operC_eq (t : OperD) : operC t = [.b t.num, .i .i64 t.n, .s t.p.name, .ro 1 (t.p.path.map stepC)] := rfl
structure RvD where
  k : Int
  ops : List OperD
  p : PlaceD
  name : List UInt8
  variant : List UInt8
instance : Inhabited RvD := ⟨⟨0, [], default, [], []⟩⟩
def rvC (t : RvD) : List V := [.i .i64 t.k, .ro 4 (t.ops.map operC), .s t.p.name, .ro 1 (t.p.path.map stepC), .s t.name, .s t.variant]
theorem rvC_eq (t : RvD) : rvC t = [.i .i64 t.k, .ro 4 (t.ops.map operC), .s t.p.name, .ro 1 (t.p.path.map stepC), .s t.name, .s t.variant] := rfl
mutual
structure StmtD where
  k : Int
  at_ : Int
  name : List UInt8
  ty : TyD
  p : PlaceD
  rv : RvD
  op : OperD
  then_ : List StmtD
  else_ : List StmtD
  arms : List ArmD
structure ArmD where
  variant : List UInt8
  bind : List UInt8
  body : List StmtD
end
instance : Inhabited StmtD := ⟨⟨0, 0, [], default, default, default, default, [], [], []⟩⟩
instance : Inhabited ArmD := ⟨⟨[], [], []⟩⟩
mutual
def stmtC : StmtD → List V
  | ⟨k, at_, name, ty, p, rv, op, then_, else_, arms⟩ => [.i .i64 k, .i .i64 at_, .s name, .i .i64 ty.k, .s ty.name, .ro 3 (ty.l.map tyC), .s p.name, .ro 1 (p.path.map stepC), .i .i64 rv.k, .ro 4 (rv.ops.map operC), .s rv.p.name, .ro 1 (rv.p.path.map stepC), .s rv.name, .s rv.variant, .b op.num, .i .i64 op.n, .s op.p.name, .ro 1 (op.p.path.map stepC), .ro 21 (stmtCs then_), .ro 21 (stmtCs else_), .ro 3 (armCs arms)]
def stmtCs : List StmtD → List (List V)
  | [] => []
  | t :: ts => stmtC t :: stmtCs ts
def armC : ArmD → List V
  | ⟨variant, bind, body⟩ => [.s variant, .s bind, .ro 21 (stmtCs body)]
def armCs : List ArmD → List (List V)
  | [] => []
  | t :: ts => armC t :: armCs ts
end
theorem stmtCs_map : ∀ l, stmtCs l = l.map stmtC
  | [] => by rw [stmtCs]; rfl
  | t :: ts => by rw [stmtCs, stmtCs_map ts]; rfl
theorem armCs_map : ∀ l, armCs l = l.map armC
  | [] => by rw [armCs]; rfl
  | t :: ts => by rw [armCs, armCs_map ts]; rfl
theorem stmtC_eq (t : StmtD) : stmtC t = [.i .i64 t.k, .i .i64 t.at_, .s t.name, .i .i64 t.ty.k, .s t.ty.name, .ro 3 (t.ty.l.map tyC), .s t.p.name, .ro 1 (t.p.path.map stepC), .i .i64 t.rv.k, .ro 4 (t.rv.ops.map operC), .s t.rv.p.name, .ro 1 (t.rv.p.path.map stepC), .s t.rv.name, .s t.rv.variant, .b t.op.num, .i .i64 t.op.n, .s t.op.p.name, .ro 1 (t.op.p.path.map stepC), .ro 21 (t.then_.map stmtC), .ro 21 (t.else_.map stmtC), .ro 3 (t.arms.map armC)] := by
  obtain ⟨k, at_, name, ty, p, rv, op, then_, else_, arms⟩ := t
  rw [stmtC]; simp only [stmtCs_map, armCs_map]
theorem armC_eq (t : ArmD) : armC t = [.s t.variant, .s t.bind, .ro 21 (t.body.map stmtC)] := by
  obtain ⟨variant, bind, body⟩ := t
  rw [armC]; simp only [stmtCs_map, armCs_map]
structure FnD where
  name : List UInt8
  params : List FieldD
  body : List StmtD
  at_ : Int
instance : Inhabited FnD := ⟨⟨[], [], [], 0⟩⟩
def fnC (t : FnD) : List V := [.s t.name, .ro 4 (t.params.map fieldC), .ro 21 (t.body.map stmtC), .i .i64 t.at_]
theorem fnC_eq (t : FnD) : fnC t = [.s t.name, .ro 4 (t.params.map fieldC), .ro 21 (t.body.map stmtC), .i .i64 t.at_] := rfl
structure SourceD where
  structs : List StructD
  enums : List EnumD
  fns : List FnD
instance : Inhabited SourceD := ⟨⟨[], [], []⟩⟩
def sourceC (t : SourceD) : List V := [.ro 4 (t.structs.map structC), .ro 3 (t.enums.map enumC), .ro 4 (t.fns.map fnC)]
theorem sourceC_eq (t : SourceD) : sourceC t = [.ro 4 (t.structs.map structC), .ro 3 (t.enums.map enumC), .ro 4 (t.fns.map fnC)] := rfl
structure LocalD where
  name : List UInt8
  ty : TyD
instance : Inhabited LocalD := ⟨⟨[], default⟩⟩
def localC (t : LocalD) : List V := [.s t.name, .i .i64 t.ty.k, .s t.ty.name, .ro 3 (t.ty.l.map tyC)]
theorem localC_eq (t : LocalD) : localC t = [.s t.name, .i .i64 t.ty.k, .s t.ty.name, .ro 3 (t.ty.l.map tyC)] := rfl
structure SpotD where
  local_ : Int
  path : List Int
instance : Inhabited SpotD := ⟨⟨0, []⟩⟩
def spotC (t : SpotD) : List V := [.i .i64 t.local_, .ro 1 (t.path.map (fun z => [.i .i64 z]))]
theorem spotC_eq (t : SpotD) : spotC t = [.i .i64 t.local_, .ro 1 (t.path.map (fun z => [.i .i64 z]))] := rfl
structure UseD where
  num : Bool
  n : Int
  move : Bool
  s : SpotD
instance : Inhabited UseD := ⟨⟨false, 0, false, default⟩⟩
def useC (t : UseD) : List V := [.b t.num, .i .i64 t.n, .b t.move, .i .i64 t.s.local_, .ro 1 (t.s.path.map (fun z => [.i .i64 z]))]
theorem useC_eq (t : UseD) : useC t = [.b t.num, .i .i64 t.n, .b t.move, .i .i64 t.s.local_, .ro 1 (t.s.path.map (fun z => [.i .i64 z]))] := rfl
structure ValueD where
  k : Int
  uses : List UseD
  s : SpotD
  which : Int
  tag : Int
instance : Inhabited ValueD := ⟨⟨0, [], default, 0, 0⟩⟩
def valueC (t : ValueD) : List V := [.i .i64 t.k, .ro 5 (t.uses.map useC), .i .i64 t.s.local_, .ro 1 (t.s.path.map (fun z => [.i .i64 z])), .i .i64 t.which, .i .i64 t.tag]
theorem valueC_eq (t : ValueD) : valueC t = [.i .i64 t.k, .ro 5 (t.uses.map useC), .i .i64 t.s.local_, .ro 1 (t.s.path.map (fun z => [.i .i64 z])), .i .i64 t.which, .i .i64 t.tag] := rfl
structure InD where
  k : Int
  at_ : Int
  s : SpotD
  v : ValueD
  u : UseD
instance : Inhabited InD := ⟨⟨0, 0, default, default, default⟩⟩
def inC (t : InD) : List V := [.i .i64 t.k, .i .i64 t.at_, .i .i64 t.s.local_, .ro 1 (t.s.path.map (fun z => [.i .i64 z])), .i .i64 t.v.k, .ro 5 (t.v.uses.map useC), .i .i64 t.v.s.local_, .ro 1 (t.v.s.path.map (fun z => [.i .i64 z])), .i .i64 t.v.which, .i .i64 t.v.tag, .b t.u.num, .i .i64 t.u.n, .b t.u.move, .i .i64 t.u.s.local_, .ro 1 (t.u.s.path.map (fun z => [.i .i64 z]))]
theorem inC_eq (t : InD) : inC t = [.i .i64 t.k, .i .i64 t.at_, .i .i64 t.s.local_, .ro 1 (t.s.path.map (fun z => [.i .i64 z])), .i .i64 t.v.k, .ro 5 (t.v.uses.map useC), .i .i64 t.v.s.local_, .ro 1 (t.v.s.path.map (fun z => [.i .i64 z])), .i .i64 t.v.which, .i .i64 t.v.tag, .b t.u.num, .i .i64 t.u.n, .b t.u.move, .i .i64 t.u.s.local_, .ro 1 (t.u.s.path.map (fun z => [.i .i64 z]))] := rfl
structure TmD where
  k : Int
  at_ : Int
  s : SpotD
  v : ValueD
  u : UseD
  to_ : List Int
instance : Inhabited TmD := ⟨⟨0, 0, default, default, default, []⟩⟩
def tmC (t : TmD) : List V := [.i .i64 t.k, .i .i64 t.at_, .i .i64 t.s.local_, .ro 1 (t.s.path.map (fun z => [.i .i64 z])), .i .i64 t.v.k, .ro 5 (t.v.uses.map useC), .i .i64 t.v.s.local_, .ro 1 (t.v.s.path.map (fun z => [.i .i64 z])), .i .i64 t.v.which, .i .i64 t.v.tag, .b t.u.num, .i .i64 t.u.n, .b t.u.move, .i .i64 t.u.s.local_, .ro 1 (t.u.s.path.map (fun z => [.i .i64 z])), .ro 1 (t.to_.map (fun z => [.i .i64 z]))]
theorem tmC_eq (t : TmD) : tmC t = [.i .i64 t.k, .i .i64 t.at_, .i .i64 t.s.local_, .ro 1 (t.s.path.map (fun z => [.i .i64 z])), .i .i64 t.v.k, .ro 5 (t.v.uses.map useC), .i .i64 t.v.s.local_, .ro 1 (t.v.s.path.map (fun z => [.i .i64 z])), .i .i64 t.v.which, .i .i64 t.v.tag, .b t.u.num, .i .i64 t.u.n, .b t.u.move, .i .i64 t.u.s.local_, .ro 1 (t.u.s.path.map (fun z => [.i .i64 z])), .ro 1 (t.to_.map (fun z => [.i .i64 z]))] := rfl
structure BlockD where
  ins : List InD
  end_ : TmD
instance : Inhabited BlockD := ⟨⟨[], default⟩⟩
def blockC (t : BlockD) : List V := [.ro 15 (t.ins.map inC), .i .i64 t.end_.k, .i .i64 t.end_.at_, .i .i64 t.end_.s.local_, .ro 1 (t.end_.s.path.map (fun z => [.i .i64 z])), .i .i64 t.end_.v.k, .ro 5 (t.end_.v.uses.map useC), .i .i64 t.end_.v.s.local_, .ro 1 (t.end_.v.s.path.map (fun z => [.i .i64 z])), .i .i64 t.end_.v.which, .i .i64 t.end_.v.tag, .b t.end_.u.num, .i .i64 t.end_.u.n, .b t.end_.u.move, .i .i64 t.end_.u.s.local_, .ro 1 (t.end_.u.s.path.map (fun z => [.i .i64 z])), .ro 1 (t.end_.to_.map (fun z => [.i .i64 z]))]
theorem blockC_eq (t : BlockD) : blockC t = [.ro 15 (t.ins.map inC), .i .i64 t.end_.k, .i .i64 t.end_.at_, .i .i64 t.end_.s.local_, .ro 1 (t.end_.s.path.map (fun z => [.i .i64 z])), .i .i64 t.end_.v.k, .ro 5 (t.end_.v.uses.map useC), .i .i64 t.end_.v.s.local_, .ro 1 (t.end_.v.s.path.map (fun z => [.i .i64 z])), .i .i64 t.end_.v.which, .i .i64 t.end_.v.tag, .b t.end_.u.num, .i .i64 t.end_.u.n, .b t.end_.u.move, .i .i64 t.end_.u.s.local_, .ro 1 (t.end_.u.s.path.map (fun z => [.i .i64 z])), .ro 1 (t.end_.to_.map (fun z => [.i .i64 z]))] := rfl
structure BodyD where
  name : List UInt8
  params : Int
  locals : List LocalD
  blocks : List BlockD
instance : Inhabited BodyD := ⟨⟨[], 0, [], []⟩⟩
def bodyC (t : BodyD) : List V := [.s t.name, .i .i64 t.params, .ro 4 (t.locals.map localC), .ro 17 (t.blocks.map blockC)]
theorem bodyC_eq (t : BodyD) : bodyC t = [.s t.name, .i .i64 t.params, .ro 4 (t.locals.map localC), .ro 17 (t.blocks.map blockC)] := rfl
structure MirBodyD where
  s : SourceD
  b : BodyD
instance : Inhabited MirBodyD := ⟨⟨default, default⟩⟩
def mirBodyC (t : MirBodyD) : List V := [.ro 4 (t.s.structs.map structC), .ro 3 (t.s.enums.map enumC), .ro 4 (t.s.fns.map fnC), .s t.b.name, .i .i64 t.b.params, .ro 4 (t.b.locals.map localC), .ro 17 (t.b.blocks.map blockC)]
theorem mirBodyC_eq (t : MirBodyD) : mirBodyC t = [.ro 4 (t.s.structs.map structC), .ro 3 (t.s.enums.map enumC), .ro 4 (t.s.fns.map fnC), .s t.b.name, .i .i64 t.b.params, .ro 4 (t.b.locals.map localC), .ro 17 (t.b.blocks.map blockC)] := rfl
theorem mixedOK : Tryd.prog.follows .mixedOrders = true := Go.Checked.mixed Go.Proofs.Tryd.checked
end Go.Proofs.Tryd
end
section
namespace Go.Proofs.Tryd
open Go Go.AM
attribute [local simp] wpG_op wpG_nil contG_some wpG_guard guardG_v guardG_o guardG_tup gval pureOp stepG_if isPick pickG_pick pickB_b pickOK isCall step_move step_assign step_alloc step_box boxV_some step_load step_store step_binOp step_unOp step_fieldAddr faV step_indexAddr ixA_slc ixA_arr step_extract extV_tup step_nilCheck ncV_ptr ncV_rp ncV_fn ncV_mp step_build buildV step_buildSlice bsV step_index ixV_arr ixV_str step_append apB step_makeSlice msV_i step_makeFunc over step_len step_makeMap mmV step_mapUpdate step_insert muA_map muB_mp step_lookup lkA_map lkB_mp step_slice slcV_s slcV_sl slcV_ro cutB_some slObV_arr bound_none bound_some bndV_i lenB_str lenB_ro lenB_sl lenB_nil lenB_z ld_ptr ld_rp offV_ptr offV_rp idxV_ro idxV_sl unV_not unV_neg binV_int binV_str binV_eqlb binV_neqb intOp strOp St.put updL setOb St.ev toV St.lk cellsOf AM.valOf TK.agg stv fillV places TI.zero condT_true condT_false finS resL resSlot packV ren ren1 ren0 Value.cells builtinV appendV elemsOf keepT room_of wrap_in toIdx passed Function.comp_def take_len_map lenV touchOf hid tab1 tab2 tab3 tab4 tab5 tab6 tab7 tab8 tab9 tab10 tab11 tab12 tab15 tab16 tab17 tab18 tab19 tab20 tab21 tab22 tab23 tab24 tab25 tab26 tab27 tab28 tab29 tab30 tab31 tab32 tab33 tab34 tab35 tab36 tab37 tab38 tab39 tab40 tab41 tab42 tab43 tab44 tab45 tab46 tab47 tab48 tab49 tab50 tab51 tab52 tab53 tab54 tab55 tab57 tab58 tab59 tab61 tab62 tab63 tab64 tab65 tab66 tab67 tab68 tab69 tab70 tab71 tab72 tab73 tab74 tab75 tab76 tab77 tab78 tab79 tab80 tab81 tab82 tab83 tab84 tab85 tab86 tab87 tab88 tab89 tab90 tab91 tab92 tab93 tab94 tab95 tab96 tab97 tab98 tab99 tab100 tab101 tab103 tab104 tab105 tab106 tab107 tab108 tab109 tab110 tab111 tab112 tab113 tab114 tab115 tab116 tab117 tab118 tab119 tab120 tab121 tab122 tab123 tab124 tab125 tab126 tab127 tab128 tab129 tab130 tab131 tab132 tab133 tab135 tab137 tab138 tab140 tab141 tab142 tab143 tab144 tab145 tab146 tab147 tab148 tab149 tab150 tab151 tab152 tab153 tab155 tab156 tab157 tab158 tab159 tab160 tab161 tab162 tab163 tab164 tab165 tab166 tab167 tab168 tab170 tab171 tab172 tab173 tab174 tab175 tab176 tab177 tab178 tab179 tab180 tab181 tab182 tab186 tab187 tab188 tab189 tab190 tab191 tab192 tab193 tab194 tab195 armC_eq blockC_eq bodyC_eq enumC_eq fieldC_eq fnC_eq inC_eq localC_eq mirBodyC_eq operC_eq placeC_eq rvC_eq sourceC_eq spotC_eq stepC_eq stmtC_eq structC_eq tmC_eq tyC_eq useC_eq valueC_eq variantC_eq cutL_nil cutL_junk cutL_cons ren_arr ren_gone ren_unborn ren_var ren_row step_convert cvV_i cvV_sl cvV_s cvK_slc cvE_u8 bytesOf bor1 bor2 bor3 bor4
set_option linter.unusedSimpArgs false
set_option linter.unusedVariables false
set_option maxRecDepth 10000
set_option maxHeartbeats 4000000
noncomputable section
theorem sz_TyD_l (t : TyD) : SizeOf.sizeOf t.l < SizeOf.sizeOf t := by cases t; simp; omega
theorem sz_StmtD_then_ (t : StmtD) : SizeOf.sizeOf t.then_ < SizeOf.sizeOf t := by cases t; simp; omega
theorem sz_StmtD_else_ (t : StmtD) : SizeOf.sizeOf t.else_ < SizeOf.sizeOf t := by cases t; simp; omega
theorem sz_StmtD_arms (t : StmtD) : SizeOf.sizeOf t.arms < SizeOf.sizeOf t := by cases t; simp; omega
theorem sz_ArmD_body (t : ArmD) : SizeOf.sizeOf t.body < SizeOf.sizeOf t := by cases t; simp; omega
def rSameTy_b_l4 (r_rSameTy : TyD → TyD → Bool) (p1 : TyD) : List TyD → Nat → Ctl (Bool) (Unit)
 | [], _ => .go ()
 | x4 :: xs4, j4 => (bnd (p1.l.getD j4 default) fun (y6_8 : TyD) => (if ¬ ((r_rSameTy x4 y6_8) = true) then .ret false else rSameTy_b_l4 r_rSameTy p1 xs4 (j4 + 1)))
def rSameTy_b (r_rSameTy : TyD → TyD → Bool) (p0 : TyD) (p1 : TyD) : Bool :=
 (if ((¬ (p0.k = p1.k)) ∨ (¬ (p0.name = p1.name))) ∨ (¬ ((p0.l.length : Int) = (p1.l.length : Int))) then false else (Ctl.run (rSameTy_b_l4 r_rSameTy p1 p0.l 0) fun (v4 : Unit) => true))
set_option maxHeartbeats 40000000 in
theorem w_rSameTy_b (r_rSameTy : TyD → TyD → Bool) (p0 : TyD) (p1 : TyD)  (D : Nat) (H_rSameTy : ∀ (u0 : TyD) (u1 : TyD), SizeOf.sizeOf u0 < D → QC prog 12 [.agg [.i .i64 u0.k, .s u0.name, .ro 3 (u0.l.map tyC)], .agg [.i .i64 u1.k, .s u1.name, .ro 3 (u1.l.map tyC)]] [] (.b (r_rSameTy u0 u1)) []) (hD : SizeOf.sizeOf p0 ≤ D) : QC prog 12 [.agg [.i .i64 p0.k, .s p0.name, .ro 3 (p0.l.map tyC)], .agg [.i .i64 p1.k, .s p1.name, .ro 3 (p1.l.map tyC)]] [] (.b (rSameTy_b r_rSameTy p0 p1)) [] := by
 refine QC.of_body tabOK func12 rfl (by kernel_rfl) ?_
 simp only [f12]
 generalize e : rSameTy_b r_rSameTy p0 p1 = R
 unfold rSameTy_b at e
 refine EV.seq ?_
 refine EV.regionG tabOK ?_ -- region 0
 simp (maxSteps := 2000000) -implicitDefEqProofs
 refine EV.seq ?_
 refine EV.seq ?_
 refine EV.regionG tabOK ?_ -- region 1
 simp (maxSteps := 2000000) -implicitDefEqProofs +contextual
 refine EV.condT ?_
 simp -implicitDefEqProofs
 refine condT_intro (fun k1 => ?_) (fun k1 => ?_)
 ·try simp at k1
  obtain ⟨f1, e⟩ := pos_on2 e (by first | simpa using k1 | grind)
  try simp at f1
  refine EV.seq ?_
  refine EV.regionG tabOK ?_ -- region 2
  simp (maxSteps := 2000000) -implicitDefEqProofs
  refine EV.ret ?_
  simp only [thenK_ret, blockK_ret, scopeK_ret, bodyK_ret]
  subst e
  refine Fin.pure0 ?_
  first | (simp; done) | (simp <;> grind)
 ·try simp at k1
  obtain ⟨f1, e⟩ := neg_on2 e (by first | simpa using k1 | grind)
  try simp at f1
  refine EV.skip ?_
  simp only [thenK_normal, blockK_normal, scopeK_normal]
  refine EV.seq ?_
  refine EV.seq ?_
  refine EV.regionG tabOK ?_ -- region 3
  simp (maxSteps := 2000000) -implicitDefEqProofs
  obtain ⟨z4, e4, e⟩ := run_split e
  refine EV.nrm (fun v : { v : (Unit) × (Unit) // z4 = .go v.1 } => (fun (v4 : Unit) (g4 : Unit) => (⟨[J, J, J, J, J, J, J, J, J, J, J, J, J, J, J, J, J, J, J, J, J, J, J, J, J, J, J, J, J, J, J, J, J, J, J, J, J, J, J, J, J, J, J, J, J, J, J, J], []⟩ : St)) v.1.1 v.1.2) ?_ ?_
  ·skip
   refine EV.block ?_
   refine EV.loopB (fun x : { x : Nat // x ≤ p0.l.length ∧ rSameTy_b_l4 r_rSameTy p1 (p0.l.drop x) x = z4 } => (fun (j4 : Nat) => (⟨[J, J, .ptr 0 0 0 0, .ptr 1 0 0 0, J, .i .i64 (j4 : Int), J, J, J, J, J, J, J, J, J, J, J, J, J, J, J, J, J, J, J, J, J, J, J, J, J, J, J, J, J, J, J, J, J, J, J, J, J, J, J, J, J, J], [.arr 0 3 [[.i .i64 p0.k, .s p0.name, .ro 3 (p0.l.map tyC)]], .arr 0 3 [[.i .i64 p1.k, .s p1.name, .ro 3 (p1.l.map tyC)]]]⟩ : St)) x.1) (fun x => p0.l.length - x.1) ⟨0, Nat.zero_le _, e4⟩ ?_ ?_
   ·skip
    try dsimp only
    try dsimp only
    refine Sub.cutF 2 (by simp) ?_ ?_ <;> simp [List.range_succ, toIdx_range, passed]
   ·skip
    rintro ⟨j4, hi4, e4⟩
    simp only at hi4 e4 ⊢
    refine EV.seq ?_
    refine EV.seq ?_
    refine EV.regionG tabOK ?_ -- region 4
    simp (maxSteps := 2000000) -implicitDefEqProofs
    refine EV.room 30 (by rfl) (fun mj4 => ?_)
    simp at mj4
    refine EV.condT ?_
    simp -implicitDefEqProofs
    refine condT_intro (fun k2 => ?_) (fun k2 => ?_)
    ·try simp at k2
     have u2 : j4 < p0.l.length := by omega
     obtain ⟨x4, hx4⟩ : ∃ z, p0.l[j4] = z := ⟨_, rfl⟩
     have mx4 : x4 ∈ p0.l := by rw [← hx4]; exact List.getElem_mem _
     have zzx4 := List.sizeOf_lt_of_mem mx4
     have := sz_TyD_l p0
     rw [List.drop_eq_getElem_cons u2, hx4, rSameTy_b_l4] at e4
     refine EV.skip ?_
     simp only [thenK_normal, blockK_normal, scopeK_normal]
     refine EV.seq ?_
     refine EV.block ?_
     refine EV.seq ?_
     obtain ⟨y6_8, gy6_8⟩ : ∃ z, (p1.l.getD j4 default) = z := ⟨_, rfl⟩
     replace e4 := bnd_on e4 gy6_8
     try dsimp only at e4
     have b3 : 0 ≤ (j4 : Int) ∧ (j4 : Int) < (p1.l.length : Int) := by omega
     have c3 : j4 < p1.l.length := by omega
     have hy6_8 : p1.l[j4] = y6_8 := by rw [← gy6_8, List.getD_eq_getElem?_getD, List.getElem?_eq_getElem c3]; rfl
     have my6_8 : y6_8 ∈ p1.l := by rw [← hy6_8]; exact List.getElem_mem _
     have zzy6_8 := List.sizeOf_lt_of_mem my6_8
     have := sz_TyD_l p1
     refine EV.drawG tabOK mixedOK ?_ -- region 6
     simp (maxSteps := 2000000) -implicitDefEqProofs [k2, u2, hx4, b3, c3, hy6_8]
     refine callG_fun (H_rSameTy x4 y6_8 (by first | omega | (simp at *; omega))) ?_ ?_
     ·first | (simp; done) | (simp [k2, u2, hx4, b3, c3, hy6_8]; done)
     simp (maxSteps := 2000000) -implicitDefEqProofs [k2, u2, hx4, b3, c3, hy6_8]
     refine And.intro ?_ ?_
     ·first | decide +kernel | (simp -implicitDefEqProofs; decide +kernel) | (split <;> decide +kernel)
     try simp -implicitDefEqProofs
     refine EV.seq ?_
     refine EV.regionG tabOK ?_ -- region 7
     simp (maxSteps := 2000000) -implicitDefEqProofs [k2, u2, hx4, b3, c3, hy6_8]
     refine EV.condT ?_
     simp -implicitDefEqProofs [k2, u2, hx4, b3, c3, hy6_8]
     refine condT_intro (fun k4 => ?_) (fun k4 => ?_)
     ·try simp at k4
      obtain ⟨f4, e4⟩ := pos_on2 e4 (by first | simpa using k4 | grind)
      try simp at f4
      refine EV.seq ?_
      refine EV.regionG tabOK ?_ -- region 8
      simp (maxSteps := 2000000) -implicitDefEqProofs [k2, u2, hx4, b3, c3, hy6_8]
      refine EV.ret ?_
      simp only [thenK_ret, blockK_ret, scopeK_ret, bodyK_ret]
      replace e := run_back e e4
      subst e
      refine Fin.pure0 ?_
      first | (simp; done) | (simp <;> grind)
     ·try simp at k4
      obtain ⟨f4, e4⟩ := neg_on2 e4 (by first | simpa using k4 | grind)
      try simp at f4
      refine EV.skip ?_
      simp only [thenK_normal, blockK_normal, scopeK_normal]
      refine EV.regionG tabOK ?_ -- region 5
      simp (maxSteps := 2000000) -implicitDefEqProofs [k2, u2, hx4, b3, c3, hy6_8]
      have w4 : IntKind.i64.wrap ((j4 : Int) + 1) = (j4 : Int) + 1 := wrap_in _ (by omega) (by omega)
      refine ⟨⟨j4 + 1, by omega, e4⟩, by dsimp only; omega, ?_⟩
      try dsimp only
      refine Sub.cutF 2 (by simp) ?_ ?_ <;> simp [List.range_succ, toIdx_range, passed, k2, u2, hx4, b3, c3, hy6_8, w4]
    ·try simp at k2
     have d2 : p0.l.drop j4 = [] := List.drop_eq_nil_of_le (by omega)
     rw [d2, rSameTy_b_l4] at e4
     refine EV.exit ?_
     simp -implicitDefEqProofs
     refine ⟨⟨((), ()), e4.symm⟩, ?_⟩
     try dsimp only
     refine Sub.cutF 0 (by simp) ?_ ?_ <;> simp [List.range_succ, toIdx_range, passed]
  ·skip
   rintro ⟨⟨v4, g4⟩, e4⟩
   simp only [thenK_normal, blockK_normal, scopeK_normal, bodyK_normal]
   replace e := run_on e e4
   try dsimp only at e
   refine EV.seq ?_
   refine EV.regionG tabOK ?_ -- region 9
   simp (maxSteps := 2000000) -implicitDefEqProofs
   refine EV.ret ?_
   simp only [thenK_ret, blockK_ret, scopeK_ret, bodyK_ret]
   subst e
   refine Fin.pure0 ?_
   first | (simp; done) | (simp <;> grind)

def rSameTy_f : Nat → TyD → TyD → Bool
 | 0, _, _ => default
 | k + 1, p0, p1 => rSameTy_b (rSameTy_f k) p0 p1
def rSameTy (p0 : TyD) (p1 : TyD) : Bool := rSameTy_f (SizeOf.sizeOf p0 + 1) p0 p1
theorem w_rSameTy_f : ∀ k : Nat, (∀ (p0 : TyD) (p1 : TyD), SizeOf.sizeOf p0 < k → QC prog 12 [.agg [.i .i64 p0.k, .s p0.name, .ro 3 (p0.l.map tyC)], .agg [.i .i64 p1.k, .s p1.name, .ro 3 (p1.l.map tyC)]] [] (.b (rSameTy_f k p0 p1)) [])
 | 0 => by refine (fun _ _ h => absurd h (Nat.not_lt_zero _))
 | k + 1 => by refine (fun p0 p1 h => by rw [rSameTy_f]; exact w_rSameTy_b (rSameTy_f k) p0 p1 k (w_rSameTy_f k) (by omega))
theorem w_rSameTy (p0 : TyD) (p1 : TyD) : QC prog 12 [.agg [.i .i64 p0.k, .s p0.name, .ro 3 (p0.l.map tyC)], .agg [.i .i64 p1.k, .s p1.name, .ro 3 (p1.l.map tyC)]] [] (.b (rSameTy p0 p1)) [] := (w_rSameTy_f (SizeOf.sizeOf p0 + 1)) p0 p1 (Nat.lt_succ_self _)
structure SrcOK (s : SourceD) : Prop where
 sf : ∀ x ∈ s.structs, x.fields.length ≤ 2199023255551
 fp : ∀ x ∈ s.fns, x.params.length ≤ 2199023255551
end
end Go.Proofs.Tryd
end
