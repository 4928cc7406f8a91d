/- The data that the laws speak of; contracts of the document's functions: kinds, spots, uses. -/
import Derived.Test.YtakfpmogpnoibaaGreatDoorChecked
import Derived.Test.YtakfpmogpnoibaaGreatDoorMachD
set_option linter.unusedVariables false
set_option linter.unusedSimpArgs false
set_option linter.constructorNameAsVariable false
section
namespace Go.Proofs.Tryz
open Go Go.AM
structure TyD where
  k : Int
  name : List UInt8
  l : List TyD
instance : Inhabited TyD := ⟨⟨0, [], []⟩⟩
mutual
def tyC : TyD → List V
  | ⟨k, name, l⟩ => [.i .i64 k, .s name, .ro 3 (tyCs l)]
def tyCs : List TyD → List (List V)
  | [] => []
  | t :: ts => tyC t :: tyCs ts
end
theorem tyCs_map : ∀ l, tyCs l = l.map tyC
  | [] => by rw [tyCs]; rfl
  | t :: ts => by rw [tyCs, tyCs_map ts]; rfl
theorem tyC_eq (t : TyD) : tyC t = [.i .i64 t.k, .s t.name, .ro 3 (t.l.map tyC)] := by
  obtain ⟨k, name, l⟩ := t
  rw [tyC]; simp only [tyCs_map]
structure FieldD where
  name : List UInt8
  ty : TyD
instance : Inhabited FieldD := ⟨⟨[], default⟩⟩
def fieldC (t : FieldD) : List V := [.s t.name, .i .i64 t.ty.k, .s t.ty.name, .ro 3 (t.ty.l.map tyC)]
theorem fieldC_eq (t : FieldD) : fieldC t = [.s t.name, .i .i64 t.ty.k, .s t.ty.name, .ro 3 (t.ty.l.map tyC)] := rfl
structure StructD where
  name : List UInt8
  drop_ : Bool
  fields : List FieldD
  at_ : Int
instance : Inhabited StructD := ⟨⟨[], false, [], 0⟩⟩
def structC (t : StructD) : List V := [.s t.name, .b t.drop_, .ro 4 (t.fields.map fieldC), .i .i64 t.at_]
theorem structC_eq (t : StructD) : structC t = [.s t.name, .b t.drop_, .ro 4 (t.fields.map fieldC), .i .i64 t.at_] := rfl
structure VariantD where
  name : List UInt8
  ty : TyD
instance : Inhabited VariantD := ⟨⟨[], default⟩⟩
def variantC (t : VariantD) : List V := [.s t.name, .i .i64 t.ty.k, .s t.ty.name, .ro 3 (t.ty.l.map tyC)]
theorem variantC_eq (t : VariantD) : variantC t = [.s t.name, .i .i64 t.ty.k, .s t.ty.name, .ro 3 (t.ty.l.map tyC)] := rfl
structure EnumD where
  name : List UInt8
  variants : List VariantD
  at_ : Int
instance : Inhabited EnumD := ⟨⟨[], [], 0⟩⟩
def enumC (t : EnumD) : List V := [.s t.name, .ro 4 (t.variants.map variantC), .i .i64 t.at_]
theorem enumC_eq (t : EnumD) : enumC t = [.s t.name, .ro 4 (t.variants.map variantC), .i .i64 t.at_] := rfl
structure StepD where
  field : List UInt8
instance : Inhabited StepD := ⟨⟨[]⟩⟩
def stepC (t : StepD) : List V := [.s t.field]
theorem stepC_eq (t : StepD) : stepC t = [.s t.field] := rfl
structure PlaceD where
  name : List UInt8
  path : List StepD
instance : Inhabited PlaceD := ⟨⟨[], []⟩⟩
def placeC (t : PlaceD) : List V := [.s t.name, .ro 1 (t.path.map stepC)]
theorem placeC_eq (t : PlaceD) : placeC t = [.s t.name, .ro 1 (t.path.map stepC)] := rfl
structure OperD where
  num : Bool
  n : Int
  p : PlaceD
instance : Inhabited OperD := ⟨⟨false, 0, default⟩⟩
def operC (t : OperD) : List V := [.b t.num, .i .i64 t.n, .s t.p.name, .ro 1 (t.p.path.map stepC)]
theorem operC_eq (t : OperD) : operC t = [.b t.num, .i .i64 t.n, .s t.p.name, .ro 1 (t.p.path.map stepC)] := rfl
structure RvD where
  k : Int
  ops : List OperD
  p : PlaceD
  name : List UInt8
  variant : List UInt8
instance : Inhabited RvD := ⟨⟨0, [], default, [], []⟩⟩
def rvC (t : RvD) : List V := [.i .i64 t.k, .ro 4 (t.ops.map operC), .s t.p.name, .ro 1 (t.p.path.map stepC), .s t.name, .s t.variant]
theorem rvC_eq (t : RvD) : rvC t = [.i .i64 t.k, .ro 4 (t.ops.map operC), .s t.p.name, .ro 1 (t.p.path.map stepC), .s t.name, .s t.variant] := rfl
mutual
structure StmtD where
  k : Int
  at_ : Int
  name : List UInt8
  ty : TyD
  p : PlaceD
  rv : RvD
  op : OperD
  then_ : List StmtD
  else_ : List StmtD
  arms : List ArmD
structure ArmD where
  variant : List UInt8
  bind : List UInt8
  body : List StmtD
end
instance : Inhabited StmtD := ⟨⟨0, 0, [], default, default, default, default, [], [], []⟩⟩
instance : Inhabited ArmD := ⟨⟨[], [], []⟩⟩
mutual
def stmtC : StmtD → List V
  | ⟨k, at_, name, ty, p, rv, op, then_, else_, arms⟩ => [.i .i64 k, .i .i64 at_, .s name, .i .i64 ty.k, .s ty.name, .ro 3 (ty.l.map tyC), .s p.name, .ro 1 (p.path.map stepC), .i .i64 rv.k, .ro 4 (rv.ops.map operC), .s rv.p.name, .ro 1 (rv.p.path.map stepC), .s rv.name, .s rv.variant, .b op.num, .i .i64 op.n, .s op.p.name, .ro 1 (op.p.path.map stepC), .ro 21 (stmtCs then_), .ro 21 (stmtCs else_), .ro 3 (armCs arms)]
def stmtCs : List StmtD → List (List V)
  | [] => []
  | t :: ts => stmtC t :: stmtCs ts
def armC : ArmD → List V
  | ⟨variant, bind, body⟩ => [.s variant, .s bind, .ro 21 (stmtCs body)]
def armCs : List ArmD → List (List V)
  | [] => []
  | t :: ts => armC t :: armCs ts
end
theorem stmtCs_map : ∀ l, stmtCs l = l.map stmtC
  | [] => by rw [stmtCs]; rfl
  | t :: ts => by rw [stmtCs, stmtCs_map ts]; rfl
theorem armCs_map : ∀ l, armCs l = l.map armC
  | [] => by rw [armCs]; rfl
  | t :: ts => by rw [armCs, armCs_map ts]; rfl
theorem stmtC_eq (t : StmtD) : stmtC t = [.i .i64 t.k, .i .i64 t.at_, .s t.name, .i .i64 t.ty.k, .s t.ty.name, .ro 3 (t.ty.l.map tyC), .s t.p.name, .ro 1 (t.p.path.map stepC), .i .i64 t.rv.k, .ro 4 (t.rv.ops.map operC), .s t.rv.p.name, .ro 1 (t.rv.p.path.map stepC), .s t.rv.name, .s t.rv.variant, .b t.op.num, .i .i64 t.op.n, .s t.op.p.name, .ro 1 (t.op.p.path.map stepC), .ro 21 (t.then_.map stmtC), .ro 21 (t.else_.map stmtC), .ro 3 (t.arms.map armC)] := by
  obtain ⟨k, at_, name, ty, p, rv, op, then_, else_, arms⟩ := t
  rw [stmtC]; simp only [stmtCs_map, armCs_map]
theorem armC_eq (t : ArmD) : armC t = [.s t.variant, .s t.bind, .ro 21 (t.body.map stmtC)] := by
  obtain ⟨variant, bind, body⟩ := t
  rw [armC]; simp only [stmtCs_map, armCs_map]
structure FnD where
  name : List UInt8
  params : List FieldD
  body : List StmtD
  at_ : Int
instance : Inhabited FnD := ⟨⟨[], [], [], 0⟩⟩
def fnC (t : FnD) : List V := [.s t.name, .ro 4 (t.params.map fieldC), .ro 21 (t.body.map stmtC), .i .i64 t.at_]
theorem fnC_eq (t : FnD) : fnC t = [.s t.name, .ro 4 (t.params.map fieldC), .ro 21 (t.body.map stmtC), .i .i64 t.at_] := rfl
structure SourceD where
  structs : List StructD
  enums : List EnumD
  fns : List FnD
instance : Inhabited SourceD := ⟨⟨[], [], []⟩⟩
def sourceC (t : SourceD) : List V := [.ro 4 (t.structs.map structC), .ro 3 (t.enums.map enumC), .ro 4 (t.fns.map fnC)]
theorem sourceC_eq (t : SourceD) : sourceC t = [.ro 4 (t.structs.map structC), .ro 3 (t.enums.map enumC), .ro 4 (t.fns.map fnC)] := rfl
structure LocalD where
  name : List UInt8
  ty : TyD
instance : Inhabited LocalD := ⟨⟨[], default⟩⟩
def localC (t : LocalD) : List V := [.s t.name, .i .i64 t.ty.k, .s t.ty.name, .ro 3 (t.ty.l.map tyC)]
theorem localC_eq (t : LocalD) : localC t = [.s t.name, .i .i64 t.ty.k, .s t.ty.name, .ro 3 (t.ty.l.map tyC)] := rfl
structure SpotD where
  local_ : Int
  path : List Int
instance : Inhabited SpotD := ⟨⟨0, []⟩⟩
def spotC (t : SpotD) : List V := [.i .i64 t.local_, .ro 1 (t.path.map (fun z => [.i .i64 z]))]
theorem spotC_eq (t : SpotD) : spotC t = [.i .i64 t.local_, .ro 1 (t.path.map (fun z => [.i .i64 z]))] := rfl
structure UseD where
  num : Bool
  n : Int
  move : Bool
  s : SpotD
instance : Inhabited UseD := ⟨⟨false, 0, false, default⟩⟩
def useC (t : UseD) : List V := [.b t.num, .i .i64 t.n, .b t.move, .i .i64 t.s.local_, .ro 1 (t.s.path.map (fun z => [.i .i64 z]))]
theorem useC_eq (t : UseD) : useC t = [.b t.num, .i .i64 t.n, .b t.move, .i .i64 t.s.local_, .ro 1 (t.s.path.map (fun z => [.i .i64 z]))] := rfl
structure ValueD where
  k : Int
  uses : List UseD
  s : SpotD
  which : Int
  tag : Int
instance : Inhabited ValueD := ⟨⟨0, [], default, 0, 0⟩⟩
def valueC (t : ValueD) : List V := [.i .i64 t.k, .ro 5 (t.uses.map useC), .i .i64 t.s.local_, .ro 1 (t.s.path.map (fun z => [.i .i64 z])), .i .i64 t.which, .i .i64 t.tag]
theorem valueC_eq (t : ValueD) : valueC t = [.i .i64 t.k, .ro 5 (t.uses.map useC), .i .i64 t.s.local_, .ro 1 (t.s.path.map (fun z => [.i .i64 z])), .i .i64 t.which, .i .i64 t.tag] := rfl
structure InD where
  k : Int
  at_ : Int
  s : SpotD
  v : ValueD
  u : UseD
instance : Inhabited InD := ⟨⟨0, 0, default, default, default⟩⟩
def inC (t : InD) : List V := [.i .i64 t.k, .i .i64 t.at_, .i .i64 t.s.local_, .ro 1 (t.s.path.map (fun z => [.i .i64 z])), .i .i64 t.v.k, .ro 5 (t.v.uses.map useC), .i .i64 t.v.s.local_, .ro 1 (t.v.s.path.map (fun z => [.i .i64 z])), .i .i64 t.v.which, .i .i64 t.v.tag, .b t.u.num, .i .i64 t.u.n, .b t.u.move, .i .i64 t.u.s.local_, .ro 1 (t.u.s.path.map (fun z => [.i .i64 z]))]
theorem inC_eq (t : InD) : inC t = [.i .i64 t.k, .i .i64 t.at_, .i .i64 t.s.local_, .ro 1 (t.s.path.map (fun z => [.i .i64 z])), .i .i64 t.v.k, .ro 5 (t.v.uses.map useC), .i .i64 t.v.s.local_, .ro 1 (t.v.s.path.map (fun z => [.i .i64 z])), .i .i64 t.v.which, .i .i64 t.v.tag, .b t.u.num, .i .i64 t.u.n, .b t.u.move, .i .i64 t.u.s.local_, .ro 1 (t.u.s.path.map (fun z => [.i .i64 z]))] := rfl
structure TmD where
  k : Int
  at_ : Int
  s : SpotD
  v : ValueD
  u : UseD
  to_ : List Int
instance : Inhabited TmD := ⟨⟨0, 0, default, default, default, []⟩⟩
def tmC (t : TmD) : List V := [.i .i64 t.k, .i .i64 t.at_, .i .i64 t.s.local_, .ro 1 (t.s.path.map (fun z => [.i .i64 z])), .i .i64 t.v.k, .ro 5 (t.v.uses.map useC), .i .i64 t.v.s.local_, .ro 1 (t.v.s.path.map (fun z => [.i .i64 z])), .i .i64 t.v.which, .i .i64 t.v.tag, .b t.u.num, .i .i64 t.u.n, .b t.u.move, .i .i64 t.u.s.local_, .ro 1 (t.u.s.path.map (fun z => [.i .i64 z])), .ro 1 (t.to_.map (fun z => [.i .i64 z]))]
theorem tmC_eq (t : TmD) : tmC t = [.i .i64 t.k, .i .i64 t.at_, .i .i64 t.s.local_, .ro 1 (t.s.path.map (fun z => [.i .i64 z])), .i .i64 t.v.k, .ro 5 (t.v.uses.map useC), .i .i64 t.v.s.local_, .ro 1 (t.v.s.path.map (fun z => [.i .i64 z])), .i .i64 t.v.which, .i .i64 t.v.tag, .b t.u.num, .i .i64 t.u.n, .b t.u.move, .i .i64 t.u.s.local_, .ro 1 (t.u.s.path.map (fun z => [.i .i64 z])), .ro 1 (t.to_.map (fun z => [.i .i64 z]))] := rfl
structure BlockD where
  ins : List InD
  end_ : TmD
instance : Inhabited BlockD := ⟨⟨[], default⟩⟩
def blockC (t : BlockD) : List V := [.ro 15 (t.ins.map inC), .i .i64 t.end_.k, .i .i64 t.end_.at_, .i .i64 t.end_.s.local_, .ro 1 (t.end_.s.path.map (fun z => [.i .i64 z])), .i .i64 t.end_.v.k, .ro 5 (t.end_.v.uses.map useC), .i .i64 t.end_.v.s.local_, .ro 1 (t.end_.v.s.path.map (fun z => [.i .i64 z])), .i .i64 t.end_.v.which, .i .i64 t.end_.v.tag, .b t.end_.u.num, .i .i64 t.end_.u.n, .b t.end_.u.move, .i .i64 t.end_.u.s.local_, .ro 1 (t.end_.u.s.path.map (fun z => [.i .i64 z])), .ro 1 (t.end_.to_.map (fun z => [.i .i64 z]))]
theorem blockC_eq (t : BlockD) : blockC t = [.ro 15 (t.ins.map inC), .i .i64 t.end_.k, .i .i64 t.end_.at_, .i .i64 t.end_.s.local_, .ro 1 (t.end_.s.path.map (fun z => [.i .i64 z])), .i .i64 t.end_.v.k, .ro 5 (t.end_.v.uses.map useC), .i .i64 t.end_.v.s.local_, .ro 1 (t.end_.v.s.path.map (fun z => [.i .i64 z])), .i .i64 t.end_.v.which, .i .i64 t.end_.v.tag, .b t.end_.u.num, .i .i64 t.end_.u.n, .b t.end_.u.move, .i .i64 t.end_.u.s.local_, .ro 1 (t.end_.u.s.path.map (fun z => [.i .i64 z])), .ro 1 (t.end_.to_.map (fun z => [.i .i64 z]))] := rfl
structure BodyD where
  name : List UInt8
  params : Int
  locals : List LocalD
  blocks : List BlockD
instance : Inhabited BodyD := ⟨⟨[], 0, [], []⟩⟩
def bodyC (t : BodyD) : List V := [.s t.name, .i .i64 t.params, .ro 4 (t.locals.map localC), .ro 17 (t.blocks.map blockC)]
theorem bodyC_eq (t : BodyD) : bodyC t = [.s t.name, .i .i64 t.params, .ro 4 (t.locals.map localC), .ro 17 (t.blocks.map blockC)] := rfl
structure MirBodyD where
  s : SourceD
  b : BodyD
instance : Inhabited MirBodyD := ⟨⟨default, default⟩⟩
def mirBodyC (t : MirBodyD) : List V := [.ro 4 (t.s.structs.map structC), .ro 3 (t.s.enums.map enumC), .ro 4 (t.s.fns.map fnC), .s t.b.name, .i .i64 t.b.params, .ro 4 (t.b.locals.map localC), .ro 17 (t.b.blocks.map blockC)]
theorem mirBodyC_eq (t : MirBodyD) : mirBodyC t = [.ro 4 (t.s.structs.map structC), .ro 3 (t.s.enums.map enumC), .ro 4 (t.s.fns.map fnC), .s t.b.name, .i .i64 t.b.params, .ro 4 (t.b.locals.map localC), .ro 17 (t.b.blocks.map blockC)] := rfl
theorem mixedOK : Tryz.prog.follows .mixedOrders = true := Go.Checked.mixed Go.Proofs.Tryz.checked
end Go.Proofs.Tryz
end
section
namespace Go.Proofs.Tryz
open Go Go.AM
attribute [local simp] wpG_op wpG_nil contG_some wpG_guard guardG_v guardG_o guardG_tup gval pureOp stepG_if isPick pickG_pick pickB_b pickOK isCall step_move step_assign step_alloc step_box boxV_some step_load step_store step_binOp step_unOp step_fieldAddr faV step_indexAddr ixA_slc ixA_arr step_extract extV_tup step_nilCheck ncV_ptr ncV_rp ncV_fn ncV_mp step_build buildV step_buildSlice bsV step_index ixV_arr ixV_str step_append apB step_makeSlice msV_i step_makeFunc over step_len step_makeMap mmV step_mapUpdate step_insert muA_map muB_mp step_lookup lkA_map lkB_mp step_slice slcV_s slcV_sl slcV_ro cutB_some slObV_arr bound_none bound_some bndV_i lenB_str lenB_ro lenB_sl lenB_nil lenB_z ld_ptr ld_rp offV_ptr offV_rp idxV_ro idxV_sl unV_not unV_neg binV_int binV_str binV_eqlb binV_neqb intOp strOp St.put updL setOb St.ev toV St.lk cellsOf AM.valOf TK.agg stv fillV places TI.zero condT_true condT_false finS resL resSlot packV ren ren1 ren0 Value.cells builtinV appendV elemsOf keepT room_of wrap_in toIdx passed Function.comp_def take_len_map lenV touchOf hid tab1 tab2 tab3 tab4 tab5 tab6 tab7 tab8 tab9 tab10 tab11 tab12 tab13 tab14 tab15 tab16 tab17 tab18 tab19 tab20 tab21 tab22 tab23 tab24 tab25 tab26 tab27 tab28 tab29 tab30 tab31 tab32 tab33 tab34 tab35 tab36 tab37 tab38 tab39 tab40 tab41 tab42 tab43 tab44 tab45 tab46 tab47 tab48 tab49 tab50 tab51 tab52 tab53 tab54 tab55 tab56 tab57 tab58 tab59 tab60 tab61 tab62 tab63 tab64 tab65 tab66 tab67 tab68 tab69 tab70 tab71 tab73 tab74 tab76 tab77 tab78 tab79 tab80 tab81 tab82 tab83 tab84 tab85 tab86 tab87 tab88 tab89 tab90 tab91 tab92 tab93 tab94 tab95 tab96 tab97 tab98 tab99 tab100 tab101 tab102 tab103 tab104 tab105 tab106 tab107 tab108 tab109 tab110 tab111 tab112 tab113 tab114 tab115 tab116 tab117 tab118 tab119 tab120 tab121 tab122 tab123 tab124 tab125 tab126 tab127 tab128 tab129 tab130 tab131 tab132 tab133 tab134 tab135 tab136 tab137 tab138 tab139 tab140 tab141 tab142 tab143 tab144 tab145 tab146 tab147 tab148 tab149 tab150 tab151 tab152 tab153 tab154 tab155 tab156 tab157 tab158 tab159 tab160 tab161 tab162 tab163 tab164 tab165 tab166 tab167 tab168 tab169 tab170 tab171 tab172 tab173 tab174 tab175 tab176 tab177 tab178 tab179 tab180 tab181 tab182 tab184 tab185 tab186 tab187 tab188 tab189 tab190 tab191 tab192 tab193 tab194 tab195 tab196 tab197 tab199 tab200 tab201 tab202 tab203 tab205 tab206 tab208 tab209 tab210 tab211 tab212 tab213 tab214 tab215 tab216 tab217 tab218 tab219 tab220 tab221 tab222 tab223 tab224 tab225 tab227 tab228 tab229 tab230 tab231 tab232 tab233 tab234 tab235 tab236 tab237 tab238 tab239 tab240 tab241 tab243 tab244 tab246 tab247 tab249 tab250 tab251 tab252 tab253 tab254 tab255 tab257 tab258 tab259 tab260 tab261 tab262 tab263 tab264 tab265 tab266 tab267 tab268 tab272 tab273 tab274 tab275 tab276 tab277 tab278 armC_eq blockC_eq bodyC_eq enumC_eq fieldC_eq fnC_eq inC_eq localC_eq mirBodyC_eq operC_eq placeC_eq rvC_eq sourceC_eq spotC_eq stepC_eq stmtC_eq structC_eq tmC_eq tyC_eq useC_eq valueC_eq variantC_eq cutL_nil cutL_junk cutL_cons ren_arr ren_gone ren_unborn ren_var ren_row step_convert cvV_i cvV_sl cvV_s cvK_slc cvE_u8 bytesOf bor1 bor2 bor3 bor4
set_option linter.unusedSimpArgs false
set_option linter.unusedVariables false
set_option maxRecDepth 10000
set_option maxHeartbeats 4000000
noncomputable section
theorem sz_TyD_l (t : TyD) : SizeOf.sizeOf t.l < SizeOf.sizeOf t := by cases t; simp; omega
theorem sz_StmtD_then_ (t : StmtD) : SizeOf.sizeOf t.then_ < SizeOf.sizeOf t := by cases t; simp; omega
theorem sz_StmtD_else_ (t : StmtD) : SizeOf.sizeOf t.else_ < SizeOf.sizeOf t := by cases t; simp; omega
theorem sz_StmtD_arms (t : StmtD) : SizeOf.sizeOf t.arms < SizeOf.sizeOf t := by cases t; simp; omega
theorem sz_ArmD_body (t : ArmD) : SizeOf.sizeOf t.body < SizeOf.sizeOf t := by cases t; simp; omega
def rSameTy_b_l4 (r_rSameTy : TyD → TyD → Bool) (p1 : TyD) : List TyD → Nat → Ctl (Bool) (Unit)
 | [], _ => .go ()
 | x4 :: xs4, j4 => (bnd (p1.l.getD j4 default) fun (y6_8 : TyD) => (if ¬ ((r_rSameTy x4 y6_8) = true) then .ret false else rSameTy_b_l4 r_rSameTy p1 xs4 (j4 + 1)))
def rSameTy_b (r_rSameTy : TyD → TyD → Bool) (p0 : TyD) (p1 : TyD) : Bool :=
 (if ((¬ (p0.k = p1.k)) ∨ (¬ (p0.name = p1.name))) ∨ (¬ ((p0.l.length : Int) = (p1.l.length : Int))) then false else (Ctl.run (rSameTy_b_l4 r_rSameTy p1 p0.l 0) fun (v4 : Unit) => true))
set_option maxHeartbeats 40000000 in
theorem w_rSameTy_b (r_rSameTy : TyD → TyD → Bool) (p0 : TyD) (p1 : TyD)  (D : Nat) (H_rSameTy : ∀ (u0 : TyD) (u1 : TyD), SizeOf.sizeOf u0 < D → QC prog 26 [.agg [.i .i64 u0.k, .s u0.name, .ro 3 (u0.l.map tyC)], .agg [.i .i64 u1.k, .s u1.name, .ro 3 (u1.l.map tyC)]] [] (.b (r_rSameTy u0 u1)) []) (hD : SizeOf.sizeOf p0 ≤ D) : QC prog 26 [.agg [.i .i64 p0.k, .s p0.name, .ro 3 (p0.l.map tyC)], .agg [.i .i64 p1.k, .s p1.name, .ro 3 (p1.l.map tyC)]] [] (.b (rSameTy_b r_rSameTy p0 p1)) [] := by
 refine QC.of_body tabOK func26 rfl (by kernel_rfl) ?_
 simp only [f26]
 generalize e : rSameTy_b r_rSameTy p0 p1 = R
 unfold rSameTy_b at e
 refine EV.seq ?_
 refine EV.regionG tabOK ?_ -- region 0
 simp (maxSteps := 2000000) -implicitDefEqProofs
 refine EV.seq ?_
 refine EV.seq ?_
 refine EV.regionG tabOK ?_ -- region 1
 simp (maxSteps := 2000000) -implicitDefEqProofs +contextual
 refine EV.condT ?_
 simp -implicitDefEqProofs
 refine condT_intro (fun k1 => ?_) (fun k1 => ?_)
 ·try simp at k1
  obtain ⟨f1, e⟩ := pos_on2 e (by first | simpa using k1 | grind)
  try simp at f1
  refine EV.seq ?_
  refine EV.regionG tabOK ?_ -- region 2
  simp (maxSteps := 2000000) -implicitDefEqProofs
  refine EV.ret ?_
  simp only [thenK_ret, blockK_ret, scopeK_ret, bodyK_ret]
  subst e
  refine Fin.pure0 ?_
  first | (simp; done) | (simp <;> grind)
 ·try simp at k1
  obtain ⟨f1, e⟩ := neg_on2 e (by first | simpa using k1 | grind)
  try simp at f1
  refine EV.skip ?_
  simp only [thenK_normal, blockK_normal, scopeK_normal]
  refine EV.seq ?_
  refine EV.seq ?_
  refine EV.regionG tabOK ?_ -- region 3
  simp (maxSteps := 2000000) -implicitDefEqProofs
  obtain ⟨z4, e4, e⟩ := run_split e
  refine EV.nrm (fun v : { v : (Unit) × (Unit) // z4 = .go v.1 } => (fun (v4 : Unit) (g4 : Unit) => (⟨[J, J, J, J, J, J, J, J, J, J, J, J, J, J, J, J, J, J, J, J, J, J, J, J, J, J, J, J, J, J, J, J, J, J, J, J, J, J, J, J, J, J, J, J, J, J, J, J], []⟩ : St)) v.1.1 v.1.2) ?_ ?_
  ·skip
   refine EV.block ?_
   refine EV.loopB (fun x : { x : Nat // x ≤ p0.l.length ∧ rSameTy_b_l4 r_rSameTy p1 (p0.l.drop x) x = z4 } => (fun (j4 : Nat) => (⟨[J, J, .ptr 0 0 0 0, .ptr 1 0 0 0, J, .i .i64 (j4 : Int), J, J, J, J, J, J, J, J, J, J, J, J, J, J, J, J, J, J, J, J, J, J, J, J, J, J, J, J, J, J, J, J, J, J, J, J, J, J, J, J, J, J], [.arr 0 3 [[.i .i64 p0.k, .s p0.name, .ro 3 (p0.l.map tyC)]], .arr 0 3 [[.i .i64 p1.k, .s p1.name, .ro 3 (p1.l.map tyC)]]]⟩ : St)) x.1) (fun x => p0.l.length - x.1) ⟨0, Nat.zero_le _, e4⟩ ?_ ?_
   ·skip
    try dsimp only
    try dsimp only
    refine Sub.cutF 2 (by simp) ?_ ?_ <;> simp [List.range_succ, toIdx_range, passed]
   ·skip
    rintro ⟨j4, hi4, e4⟩
    simp only at hi4 e4 ⊢
    refine EV.seq ?_
    refine EV.seq ?_
    refine EV.regionG tabOK ?_ -- region 4
    simp (maxSteps := 2000000) -implicitDefEqProofs
    refine EV.room 30 (by rfl) (fun mj4 => ?_)
    simp at mj4
    refine EV.condT ?_
    simp -implicitDefEqProofs
    refine condT_intro (fun k2 => ?_) (fun k2 => ?_)
    ·try simp at k2
     have u2 : j4 < p0.l.length := by omega
     obtain ⟨x4, hx4⟩ : ∃ z, p0.l[j4] = z := ⟨_, rfl⟩
     have mx4 : x4 ∈ p0.l := by rw [← hx4]; exact List.getElem_mem _
     have zzx4 := List.sizeOf_lt_of_mem mx4
     have := sz_TyD_l p0
     rw [List.drop_eq_getElem_cons u2, hx4, rSameTy_b_l4] at e4
     refine EV.skip ?_
     simp only [thenK_normal, blockK_normal, scopeK_normal]
     refine EV.seq ?_
     refine EV.block ?_
     refine EV.seq ?_
     obtain ⟨y6_8, gy6_8⟩ : ∃ z, (p1.l.getD j4 default) = z := ⟨_, rfl⟩
     replace e4 := bnd_on e4 gy6_8
     try dsimp only at e4
     have b3 : 0 ≤ (j4 : Int) ∧ (j4 : Int) < (p1.l.length : Int) := by omega
     have c3 : j4 < p1.l.length := by omega
     have hy6_8 : p1.l[j4] = y6_8 := by rw [← gy6_8, List.getD_eq_getElem?_getD, List.getElem?_eq_getElem c3]; rfl
     have my6_8 : y6_8 ∈ p1.l := by rw [← hy6_8]; exact List.getElem_mem _
     have zzy6_8 := List.sizeOf_lt_of_mem my6_8
     have := sz_TyD_l p1
     refine EV.drawG tabOK mixedOK ?_ -- region 6
     simp (maxSteps := 2000000) -implicitDefEqProofs [k2, u2, hx4, b3, c3, hy6_8]
     refine callG_fun (H_rSameTy x4 y6_8 (by first | omega | (simp at *; omega))) ?_ ?_
     ·first | (simp; done) | (simp [k2, u2, hx4, b3, c3, hy6_8]; done)
     simp (maxSteps := 2000000) -implicitDefEqProofs [k2, u2, hx4, b3, c3, hy6_8]
     refine And.intro ?_ ?_
     ·first | decide +kernel | (simp -implicitDefEqProofs; decide +kernel) | (split <;> decide +kernel)
     try simp -implicitDefEqProofs
     refine EV.seq ?_
     refine EV.regionG tabOK ?_ -- region 7
     simp (maxSteps := 2000000) -implicitDefEqProofs [k2, u2, hx4, b3, c3, hy6_8]
     refine EV.condT ?_
     simp -implicitDefEqProofs [k2, u2, hx4, b3, c3, hy6_8]
     refine condT_intro (fun k4 => ?_) (fun k4 => ?_)
     ·try simp at k4
      obtain ⟨f4, e4⟩ := pos_on2 e4 (by first | simpa using k4 | grind)
      try simp at f4
      refine EV.seq ?_
      refine EV.regionG tabOK ?_ -- region 8
      simp (maxSteps := 2000000) -implicitDefEqProofs [k2, u2, hx4, b3, c3, hy6_8]
      refine EV.ret ?_
      simp only [thenK_ret, blockK_ret, scopeK_ret, bodyK_ret]
      replace e := run_back e e4
      subst e
      refine Fin.pure0 ?_
      first | (simp; done) | (simp <;> grind)
     ·try simp at k4
      obtain ⟨f4, e4⟩ := neg_on2 e4 (by first | simpa using k4 | grind)
      try simp at f4
      refine EV.skip ?_
      simp only [thenK_normal, blockK_normal, scopeK_normal]
      refine EV.regionG tabOK ?_ -- region 5
      simp (maxSteps := 2000000) -implicitDefEqProofs [k2, u2, hx4, b3, c3, hy6_8]
      have w4 : IntKind.i64.wrap ((j4 : Int) + 1) = (j4 : Int) + 1 := wrap_in _ (by omega) (by omega)
      refine ⟨⟨j4 + 1, by omega, e4⟩, by dsimp only; omega, ?_⟩
      try dsimp only
      refine Sub.cutF 2 (by simp) ?_ ?_ <;> simp [List.range_succ, toIdx_range, passed, k2, u2, hx4, b3, c3, hy6_8, w4]
    ·try simp at k2
     have d2 : p0.l.drop j4 = [] := List.drop_eq_nil_of_le (by omega)
     rw [d2, rSameTy_b_l4] at e4
     refine EV.exit ?_
     simp -implicitDefEqProofs
     refine ⟨⟨((), ()), e4.symm⟩, ?_⟩
     try dsimp only
     refine Sub.cutF 0 (by simp) ?_ ?_ <;> simp [List.range_succ, toIdx_range, passed]
  ·skip
   rintro ⟨⟨v4, g4⟩, e4⟩
   simp only [thenK_normal, blockK_normal, scopeK_normal, bodyK_normal]
   replace e := run_on e e4
   try dsimp only at e
   refine EV.seq ?_
   refine EV.regionG tabOK ?_ -- region 9
   simp (maxSteps := 2000000) -implicitDefEqProofs
   refine EV.ret ?_
   simp only [thenK_ret, blockK_ret, scopeK_ret, bodyK_ret]
   subst e
   refine Fin.pure0 ?_
   first | (simp; done) | (simp <;> grind)

def rSameTy_f : Nat → TyD → TyD → Bool
 | 0, _, _ => default
 | k + 1, p0, p1 => rSameTy_b (rSameTy_f k) p0 p1
def rSameTy (p0 : TyD) (p1 : TyD) : Bool := rSameTy_f (SizeOf.sizeOf p0 + 1) p0 p1
theorem w_rSameTy_f : ∀ k : Nat, (∀ (p0 : TyD) (p1 : TyD), SizeOf.sizeOf p0 < k → QC prog 26 [.agg [.i .i64 p0.k, .s p0.name, .ro 3 (p0.l.map tyC)], .agg [.i .i64 p1.k, .s p1.name, .ro 3 (p1.l.map tyC)]] [] (.b (rSameTy_f k p0 p1)) [])
 | 0 => by refine (fun _ _ h => absurd h (Nat.not_lt_zero _))
 | k + 1 => by refine (fun p0 p1 h => by rw [rSameTy_f]; exact w_rSameTy_b (rSameTy_f k) p0 p1 k (w_rSameTy_f k) (by omega))
theorem w_rSameTy (p0 : TyD) (p1 : TyD) : QC prog 26 [.agg [.i .i64 p0.k, .s p0.name, .ro 3 (p0.l.map tyC)], .agg [.i .i64 p1.k, .s p1.name, .ro 3 (p1.l.map tyC)]] [] (.b (rSameTy p0 p1)) [] := (w_rSameTy_f (SizeOf.sizeOf p0 + 1)) p0 p1 (Nat.lt_succ_self _)

def rHolds_b_l4 (r_rHolds : TyD → Bool) : List TyD → Ctl (Bool) (Unit)
 | [] => .go ()
 | x4 :: xs4 => (if (r_rHolds x4) = true then .ret true else rHolds_b_l4 r_rHolds xs4)
def rHolds_b (r_rHolds : TyD → Bool) (p0 : TyD) : Bool :=
 (if (p0.k = 5) ∨ (p0.k = 6) then true else (Ctl.run (rHolds_b_l4 r_rHolds p0.l) fun (v4 : Unit) => false))
set_option maxHeartbeats 40000000 in
theorem w_rHolds_b (r_rHolds : TyD → Bool) (p0 : TyD)  (D : Nat) (H_rHolds : ∀ (u0 : TyD), SizeOf.sizeOf u0 < D → QC prog 86 [.agg [.i .i64 u0.k, .s u0.name, .ro 3 (u0.l.map tyC)]] [] (.b (r_rHolds u0)) []) (hD : SizeOf.sizeOf p0 ≤ D) : QC prog 86 [.agg [.i .i64 p0.k, .s p0.name, .ro 3 (p0.l.map tyC)]] [] (.b (rHolds_b r_rHolds p0)) [] := by
 refine QC.of_body tabOK func86 rfl (by kernel_rfl) ?_
 simp only [f86]
 generalize e : rHolds_b r_rHolds p0 = R
 unfold rHolds_b at e
 refine EV.seq ?_
 refine EV.regionG tabOK ?_ -- region 0
 simp (maxSteps := 2000000) -implicitDefEqProofs
 refine EV.seq ?_
 refine EV.seq ?_
 refine EV.regionG tabOK ?_ -- region 1
 simp (maxSteps := 2000000) -implicitDefEqProofs +contextual
 refine EV.condT ?_
 simp -implicitDefEqProofs
 refine condT_intro (fun k1 => ?_) (fun k1 => ?_)
 ·try simp at k1
  obtain ⟨f1, e⟩ := pos_on2 e (by first | simpa using k1 | grind)
  try simp at f1
  refine EV.seq ?_
  refine EV.regionG tabOK ?_ -- region 2
  simp (maxSteps := 2000000) -implicitDefEqProofs
  refine EV.ret ?_
  simp only [thenK_ret, blockK_ret, scopeK_ret, bodyK_ret]
  subst e
  refine Fin.pure0 ?_
  first | (simp; done) | (simp <;> grind)
 ·try simp at k1
  obtain ⟨f1, e⟩ := neg_on2 e (by first | simpa using k1 | grind)
  try simp at f1
  refine EV.skip ?_
  simp only [thenK_normal, blockK_normal, scopeK_normal]
  refine EV.seq ?_
  refine EV.seq ?_
  refine EV.regionG tabOK ?_ -- region 3
  simp (maxSteps := 2000000) -implicitDefEqProofs
  obtain ⟨z4, e4, e⟩ := run_split e
  refine EV.nrm (fun v : { v : (Unit) × (Unit) // z4 = .go v.1 } => (fun (v4 : Unit) (g4 : Unit) => (⟨[J, J, J, J, J, J, J, J, J, J, J, J, J, J, J, J, J, J, J, J, J, J, J, J, J, J, J], []⟩ : St)) v.1.1 v.1.2) ?_ ?_
  ·skip
   refine EV.block ?_
   refine EV.loopB (fun x : { x : Nat // x ≤ p0.l.length ∧ rHolds_b_l4 r_rHolds (p0.l.drop x) = z4 } => (fun (j4 : Nat) => (⟨[J, .ptr 0 0 0 0, J, .i .i64 (j4 : Int), J, J, J, J, J, J, J, J, J, J, J, J, J, J, J, J, J, J, J, J, J, J, J], [.arr 0 3 [[.i .i64 p0.k, .s p0.name, .ro 3 (p0.l.map tyC)]]]⟩ : St)) x.1) (fun x => p0.l.length - x.1) ⟨0, Nat.zero_le _, e4⟩ ?_ ?_
   ·skip
    try dsimp only
    try dsimp only
    refine Sub.cutF 1 (by simp) ?_ ?_ <;> simp [List.range_succ, toIdx_range, passed]
   ·skip
    rintro ⟨j4, hi4, e4⟩
    simp only at hi4 e4 ⊢
    refine EV.seq ?_
    refine EV.seq ?_
    refine EV.regionG tabOK ?_ -- region 4
    simp (maxSteps := 2000000) -implicitDefEqProofs
    refine EV.room 15 (by rfl) (fun mj4 => ?_)
    simp at mj4
    refine EV.condT ?_
    simp -implicitDefEqProofs
    refine condT_intro (fun k2 => ?_) (fun k2 => ?_)
    ·try simp at k2
     have u2 : j4 < p0.l.length := by omega
     obtain ⟨x4, hx4⟩ : ∃ z, p0.l[j4] = z := ⟨_, rfl⟩
     have mx4 : x4 ∈ p0.l := by rw [← hx4]; exact List.getElem_mem _
     have zzx4 := List.sizeOf_lt_of_mem mx4
     have := sz_TyD_l p0
     rw [List.drop_eq_getElem_cons u2, hx4, rHolds_b_l4] at e4
     refine EV.skip ?_
     simp only [thenK_normal, blockK_normal, scopeK_normal]
     refine EV.seq ?_
     refine EV.block ?_
     refine EV.seq ?_
     refine EV.regionG tabOK ?_ -- region 6
     simp (maxSteps := 2000000) -implicitDefEqProofs [k2, u2, hx4]
     refine callG_fun (H_rHolds x4 (by first | omega | (simp at *; omega))) ?_ ?_
     ·first | (simp; done) | (simp [k2, u2, hx4]; done)
     simp (maxSteps := 2000000) -implicitDefEqProofs [k2, u2, hx4]
     refine EV.seq ?_
     refine EV.regionG tabOK ?_ -- region 7
     simp (maxSteps := 2000000) -implicitDefEqProofs [k2, u2, hx4]
     refine EV.condT ?_
     simp -implicitDefEqProofs [k2, u2, hx4]
     refine condT_intro (fun k3 => ?_) (fun k3 => ?_)
     ·try simp at k3
      obtain ⟨f3, e4⟩ := pos_on2 e4 (by first | simpa using k3 | grind)
      try simp at f3
      refine EV.seq ?_
      refine EV.regionG tabOK ?_ -- region 8
      simp (maxSteps := 2000000) -implicitDefEqProofs [k2, u2, hx4]
      refine EV.ret ?_
      simp only [thenK_ret, blockK_ret, scopeK_ret, bodyK_ret]
      replace e := run_back e e4
      subst e
      refine Fin.pure0 ?_
      first | (simp; done) | (simp <;> grind)
     ·try simp at k3
      obtain ⟨f3, e4⟩ := neg_on2 e4 (by first | simpa using k3 | grind)
      try simp at f3
      refine EV.skip ?_
      simp only [thenK_normal, blockK_normal, scopeK_normal]
      refine EV.regionG tabOK ?_ -- region 5
      simp (maxSteps := 2000000) -implicitDefEqProofs [k2, u2, hx4]
      have w4 : IntKind.i64.wrap ((j4 : Int) + 1) = (j4 : Int) + 1 := wrap_in _ (by omega) (by omega)
      refine ⟨⟨j4 + 1, by omega, e4⟩, by dsimp only; omega, ?_⟩
      try dsimp only
      refine Sub.cutF 1 (by simp) ?_ ?_ <;> simp [List.range_succ, toIdx_range, passed, k2, u2, hx4, w4]
    ·try simp at k2
     have d2 : p0.l.drop j4 = [] := List.drop_eq_nil_of_le (by omega)
     rw [d2, rHolds_b_l4] at e4
     refine EV.exit ?_
     simp -implicitDefEqProofs
     refine ⟨⟨((), ()), e4.symm⟩, ?_⟩
     try dsimp only
     refine Sub.cutF 0 (by simp) ?_ ?_ <;> simp [List.range_succ, toIdx_range, passed]
  ·skip
   rintro ⟨⟨v4, g4⟩, e4⟩
   simp only [thenK_normal, blockK_normal, scopeK_normal, bodyK_normal]
   replace e := run_on e e4
   try dsimp only at e
   refine EV.seq ?_
   refine EV.regionG tabOK ?_ -- region 9
   simp (maxSteps := 2000000) -implicitDefEqProofs
   refine EV.ret ?_
   simp only [thenK_ret, blockK_ret, scopeK_ret, bodyK_ret]
   subst e
   refine Fin.pure0 ?_
   first | (simp; done) | (simp <;> grind)

def rHolds_f : Nat → TyD → Bool
 | 0, _ => default
 | k + 1, p0 => rHolds_b (rHolds_f k) p0
def rHolds (p0 : TyD) : Bool := rHolds_f (SizeOf.sizeOf p0 + 1) p0
theorem w_rHolds_f : ∀ k : Nat, (∀ (p0 : TyD), SizeOf.sizeOf p0 < k → QC prog 86 [.agg [.i .i64 p0.k, .s p0.name, .ro 3 (p0.l.map tyC)]] [] (.b (rHolds_f k p0)) [])
 | 0 => by refine (fun _ h => absurd h (Nat.not_lt_zero _))
 | k + 1 => by refine (fun p0 h => by rw [rHolds_f]; exact w_rHolds_b (rHolds_f k) p0 k (w_rHolds_f k) (by omega))
theorem w_rHolds (p0 : TyD) : QC prog 86 [.agg [.i .i64 p0.k, .s p0.name, .ro 3 (p0.l.map tyC)]] [] (.b (rHolds p0)) [] := (w_rHolds_f (SizeOf.sizeOf p0 + 1)) p0 (Nat.lt_succ_self _)

def rStructOf_l2 (p1 : List UInt8) : List StructD → Nat → Ctl (Int) (Unit)
 | [], _ => .go ()
 | x2 :: xs2, j2 => (if x2.name = p1 then .ret (j2 : Int) else rStructOf_l2 p1 xs2 (j2 + 1))
def rStructOf (p0 : SourceD) (p1 : List UInt8) : Int :=
 (Ctl.run (rStructOf_l2 p1 p0.structs 0) fun (v2 : Unit) => (-1))
set_option maxHeartbeats 40000000 in
theorem w_rStructOf (p0 : SourceD) (p1 : List UInt8)  : QC prog 90 [.agg [.ro 4 (p0.structs.map structC), .ro 3 (p0.enums.map enumC), .ro 4 (p0.fns.map fnC)], .s p1] [] (.i .i64 (rStructOf p0 p1)) [] := by
 refine QC.of_body tabOK func90 rfl (by kernel_rfl) ?_
 simp only [f90]
 generalize e : rStructOf p0 p1 = R
 unfold rStructOf at e
 refine EV.seq ?_
 refine EV.regionG tabOK ?_ -- region 0
 simp (maxSteps := 2000000) -implicitDefEqProofs
 refine EV.seq ?_
 refine EV.seq ?_
 refine EV.regionG tabOK ?_ -- region 1
 simp (maxSteps := 2000000) -implicitDefEqProofs
 obtain ⟨z2, e2, e⟩ := run_split e
 refine EV.nrm (fun v : { v : (Unit) × (Unit) // z2 = .go v.1 } => (fun (v2 : Unit) (g2 : Unit) => (⟨[J, J, J, J, J, J, J, J, J, J, J, J, J, J, J, J, J, J, J, J, J, J], []⟩ : St)) v.1.1 v.1.2) ?_ ?_
 ·skip
  refine EV.block ?_
  refine EV.loopB (fun x : { x : Nat // x ≤ p0.structs.length ∧ rStructOf_l2 p1 (p0.structs.drop x) x = z2 } => (fun (j2 : Nat) => (⟨[J, .s p1, .ptr 0 0 0 0, J, J, .i .i64 (j2 : Int), J, J, J, J, J, J, J, J, J, J, J, J, J, J, J, J], [.arr 0 3 [[.ro 4 (p0.structs.map structC), .ro 3 (p0.enums.map enumC), .ro 4 (p0.fns.map fnC)]]]⟩ : St)) x.1) (fun x => p0.structs.length - x.1) ⟨0, Nat.zero_le _, e2⟩ ?_ ?_
  ·skip
   try dsimp only
   try dsimp only
   refine Sub.cutF 1 (by simp) ?_ ?_ <;> simp [List.range_succ, toIdx_range, passed]
  ·skip
   rintro ⟨j2, hi2, e2⟩
   simp only at hi2 e2 ⊢
   refine EV.seq ?_
   refine EV.seq ?_
   refine EV.regionG tabOK ?_ -- region 2
   simp (maxSteps := 2000000) -implicitDefEqProofs
   refine EV.room 8 (by rfl) (fun mj2 => ?_)
   simp at mj2
   refine EV.condT ?_
   simp -implicitDefEqProofs
   refine condT_intro (fun k1 => ?_) (fun k1 => ?_)
   ·try simp at k1
    have u1 : j2 < p0.structs.length := by omega
    obtain ⟨x2, hx2⟩ : ∃ z, p0.structs[j2] = z := ⟨_, rfl⟩
    have mx2 : x2 ∈ p0.structs := by rw [← hx2]; exact List.getElem_mem _
    rw [List.drop_eq_getElem_cons u1, hx2, rStructOf_l2] at e2
    refine EV.skip ?_
    simp only [thenK_normal, blockK_normal, scopeK_normal]
    refine EV.seq ?_
    refine EV.block ?_
    refine EV.seq ?_
    refine EV.regionG tabOK ?_ -- region 4
    simp (maxSteps := 2000000) -implicitDefEqProofs [k1, u1, hx2]
    refine EV.condT ?_
    simp -implicitDefEqProofs [k1, u1, hx2]
    refine condT_intro (fun k2 => ?_) (fun k2 => ?_)
    ·try simp at k2
     obtain ⟨f2, e2⟩ := pos_on2 e2 (by first | simpa using k2 | grind)
     try simp at f2
     refine EV.seq ?_
     refine EV.regionG tabOK ?_ -- region 5
     simp (maxSteps := 2000000) -implicitDefEqProofs [k1, u1, hx2]
     refine EV.ret ?_
     simp only [thenK_ret, blockK_ret, scopeK_ret, bodyK_ret]
     replace e := run_back e e2
     subst e
     refine Fin.pure0 ?_
     first | (simp; done) | (simp <;> grind)
    ·try simp at k2
     obtain ⟨f2, e2⟩ := neg_on2 e2 (by first | simpa using k2 | grind)
     try simp at f2
     refine EV.skip ?_
     simp only [thenK_normal, blockK_normal, scopeK_normal]
     refine EV.regionG tabOK ?_ -- region 3
     simp (maxSteps := 2000000) -implicitDefEqProofs [k1, u1, hx2]
     have w2 : IntKind.i64.wrap ((j2 : Int) + 1) = (j2 : Int) + 1 := wrap_in _ (by omega) (by omega)
     refine ⟨⟨j2 + 1, by omega, e2⟩, by dsimp only; omega, ?_⟩
     try dsimp only
     refine Sub.cutF 1 (by simp) ?_ ?_ <;> simp [List.range_succ, toIdx_range, passed, k1, u1, hx2, w2]
   ·try simp at k1
    have d1 : p0.structs.drop j2 = [] := List.drop_eq_nil_of_le (by omega)
    rw [d1, rStructOf_l2] at e2
    refine EV.exit ?_
    simp -implicitDefEqProofs
    refine ⟨⟨((), ()), e2.symm⟩, ?_⟩
    try dsimp only
    refine Sub.cutF 0 (by simp) ?_ ?_ <;> simp [List.range_succ, toIdx_range, passed]
 ·skip
  rintro ⟨⟨v2, g2⟩, e2⟩
  simp only [thenK_normal, blockK_normal, scopeK_normal, bodyK_normal]
  replace e := run_on e e2
  try dsimp only at e
  refine EV.seq ?_
  refine EV.regionG tabOK ?_ -- region 6
  simp (maxSteps := 2000000) -implicitDefEqProofs
  refine EV.ret ?_
  simp only [thenK_ret, blockK_ret, scopeK_ret, bodyK_ret]
  subst e
  refine Fin.pure0 ?_
  first | (simp; done) | (simp <;> grind)

theorem rStructOf_at (p1 : List UInt8) : ∀ l j v, rStructOf_l2 p1 l j = .ret v → v < (j : Int) + l.length
 | [], j, v, h => by simp [rStructOf_l2] at h
 | x :: l, j, v, h => by
  simp only [rStructOf_l2] at h
  split at h
  ·simp at h; subst h; simp; omega
  ·have := rStructOf_at p1 l (j + 1) v h
   simp; omega
theorem rStructOf_lt (p0 : SourceD) (p1 : List UInt8) : rStructOf p0 p1 < p0.structs.length := by
 unfold rStructOf
 cases h : rStructOf_l2 p1 p0.structs 0 with
 | ret v => have := rStructOf_at p1 _ _ _ h; simp only [Ctl.run]; omega
 | go v => simp only [Ctl.run]; omega

def rEnumOf_l2 (p1 : List UInt8) : List EnumD → Nat → Ctl (Int) (Unit)
 | [], _ => .go ()
 | x2 :: xs2, j2 => (if x2.name = p1 then .ret (j2 : Int) else rEnumOf_l2 p1 xs2 (j2 + 1))
def rEnumOf (p0 : SourceD) (p1 : List UInt8) : Int :=
 (Ctl.run (rEnumOf_l2 p1 p0.enums 0) fun (v2 : Unit) => (-1))
set_option maxHeartbeats 40000000 in
theorem w_rEnumOf (p0 : SourceD) (p1 : List UInt8)  : QC prog 148 [.agg [.ro 4 (p0.structs.map structC), .ro 3 (p0.enums.map enumC), .ro 4 (p0.fns.map fnC)], .s p1] [] (.i .i64 (rEnumOf p0 p1)) [] := by
 refine QC.of_body tabOK func148 rfl (by kernel_rfl) ?_
 simp only [f148]
 generalize e : rEnumOf p0 p1 = R
 unfold rEnumOf at e
 refine EV.seq ?_
 refine EV.regionG tabOK ?_ -- region 0
 simp (maxSteps := 2000000) -implicitDefEqProofs
 refine EV.seq ?_
 refine EV.seq ?_
 refine EV.regionG tabOK ?_ -- region 1
 simp (maxSteps := 2000000) -implicitDefEqProofs
 obtain ⟨z2, e2, e⟩ := run_split e
 refine EV.nrm (fun v : { v : (Unit) × (Unit) // z2 = .go v.1 } => (fun (v2 : Unit) (g2 : Unit) => (⟨[J, J, J, J, J, J, J, J, J, J, J, J, J, J, J, J, J, J, J, J, J, J], []⟩ : St)) v.1.1 v.1.2) ?_ ?_
 ·skip
  refine EV.block ?_
  refine EV.loopB (fun x : { x : Nat // x ≤ p0.enums.length ∧ rEnumOf_l2 p1 (p0.enums.drop x) x = z2 } => (fun (j2 : Nat) => (⟨[J, .s p1, .ptr 0 0 0 0, J, J, .i .i64 (j2 : Int), J, J, J, J, J, J, J, J, J, J, J, J, J, J, J, J], [.arr 0 3 [[.ro 4 (p0.structs.map structC), .ro 3 (p0.enums.map enumC), .ro 4 (p0.fns.map fnC)]]]⟩ : St)) x.1) (fun x => p0.enums.length - x.1) ⟨0, Nat.zero_le _, e2⟩ ?_ ?_
  ·skip
   try dsimp only
   try dsimp only
   refine Sub.cutF 1 (by simp) ?_ ?_ <;> simp [List.range_succ, toIdx_range, passed]
  ·skip
   rintro ⟨j2, hi2, e2⟩
   simp only at hi2 e2 ⊢
   refine EV.seq ?_
   refine EV.seq ?_
   refine EV.regionG tabOK ?_ -- region 2
   simp (maxSteps := 2000000) -implicitDefEqProofs
   refine EV.room 8 (by rfl) (fun mj2 => ?_)
   simp at mj2
   refine EV.condT ?_
   simp -implicitDefEqProofs
   refine condT_intro (fun k1 => ?_) (fun k1 => ?_)
   ·try simp at k1
    have u1 : j2 < p0.enums.length := by omega
    obtain ⟨x2, hx2⟩ : ∃ z, p0.enums[j2] = z := ⟨_, rfl⟩
    have mx2 : x2 ∈ p0.enums := by rw [← hx2]; exact List.getElem_mem _
    rw [List.drop_eq_getElem_cons u1, hx2, rEnumOf_l2] at e2
    refine EV.skip ?_
    simp only [thenK_normal, blockK_normal, scopeK_normal]
    refine EV.seq ?_
    refine EV.block ?_
    refine EV.seq ?_
    refine EV.regionG tabOK ?_ -- region 4
    simp (maxSteps := 2000000) -implicitDefEqProofs [k1, u1, hx2]
    refine EV.condT ?_
    simp -implicitDefEqProofs [k1, u1, hx2]
    refine condT_intro (fun k2 => ?_) (fun k2 => ?_)
    ·try simp at k2
     obtain ⟨f2, e2⟩ := pos_on2 e2 (by first | simpa using k2 | grind)
     try simp at f2
     refine EV.seq ?_
     refine EV.regionG tabOK ?_ -- region 5
     simp (maxSteps := 2000000) -implicitDefEqProofs [k1, u1, hx2]
     refine EV.ret ?_
     simp only [thenK_ret, blockK_ret, scopeK_ret, bodyK_ret]
     replace e := run_back e e2
     subst e
     refine Fin.pure0 ?_
     first | (simp; done) | (simp <;> grind)
    ·try simp at k2
     obtain ⟨f2, e2⟩ := neg_on2 e2 (by first | simpa using k2 | grind)
     try simp at f2
     refine EV.skip ?_
     simp only [thenK_normal, blockK_normal, scopeK_normal]
     refine EV.regionG tabOK ?_ -- region 3
     simp (maxSteps := 2000000) -implicitDefEqProofs [k1, u1, hx2]
     have w2 : IntKind.i64.wrap ((j2 : Int) + 1) = (j2 : Int) + 1 := wrap_in _ (by omega) (by omega)
     refine ⟨⟨j2 + 1, by omega, e2⟩, by dsimp only; omega, ?_⟩
     try dsimp only
     refine Sub.cutF 1 (by simp) ?_ ?_ <;> simp [List.range_succ, toIdx_range, passed, k1, u1, hx2, w2]
   ·try simp at k1
    have d1 : p0.enums.drop j2 = [] := List.drop_eq_nil_of_le (by omega)
    rw [d1, rEnumOf_l2] at e2
    refine EV.exit ?_
    simp -implicitDefEqProofs
    refine ⟨⟨((), ()), e2.symm⟩, ?_⟩
    try dsimp only
    refine Sub.cutF 0 (by simp) ?_ ?_ <;> simp [List.range_succ, toIdx_range, passed]
 ·skip
  rintro ⟨⟨v2, g2⟩, e2⟩
  simp only [thenK_normal, blockK_normal, scopeK_normal, bodyK_normal]
  replace e := run_on e e2
  try dsimp only at e
  refine EV.seq ?_
  refine EV.regionG tabOK ?_ -- region 6
  simp (maxSteps := 2000000) -implicitDefEqProofs
  refine EV.ret ?_
  simp only [thenK_ret, blockK_ret, scopeK_ret, bodyK_ret]
  subst e
  refine Fin.pure0 ?_
  first | (simp; done) | (simp <;> grind)

theorem rEnumOf_at (p1 : List UInt8) : ∀ l j v, rEnumOf_l2 p1 l j = .ret v → v < (j : Int) + l.length
 | [], j, v, h => by simp [rEnumOf_l2] at h
 | x :: l, j, v, h => by
  simp only [rEnumOf_l2] at h
  split at h
  ·simp at h; subst h; simp; omega
  ·have := rEnumOf_at p1 l (j + 1) v h
   simp; omega
theorem rEnumOf_lt (p0 : SourceD) (p1 : List UInt8) : rEnumOf p0 p1 < p0.enums.length := by
 unfold rEnumOf
 cases h : rEnumOf_l2 p1 p0.enums 0 with
 | ret v => have := rEnumOf_at p1 _ _ _ h; simp only [Ctl.run]; omega
 | go v => simp only [Ctl.run]; omega

def rFnOf_l2 (p1 : List UInt8) : List FnD → Nat → Ctl (Int) (Unit)
 | [], _ => .go ()
 | x2 :: xs2, j2 => (if x2.name = p1 then .ret (j2 : Int) else rFnOf_l2 p1 xs2 (j2 + 1))
def rFnOf (p0 : SourceD) (p1 : List UInt8) : Int :=
 (Ctl.run (rFnOf_l2 p1 p0.fns 0) fun (v2 : Unit) => (-1))
set_option maxHeartbeats 40000000 in
theorem w_rFnOf (p0 : SourceD) (p1 : List UInt8)  : QC prog 149 [.agg [.ro 4 (p0.structs.map structC), .ro 3 (p0.enums.map enumC), .ro 4 (p0.fns.map fnC)], .s p1] [] (.i .i64 (rFnOf p0 p1)) [] := by
 refine QC.of_body tabOK func149 rfl (by kernel_rfl) ?_
 simp only [f149]
 generalize e : rFnOf p0 p1 = R
 unfold rFnOf at e
 refine EV.seq ?_
 refine EV.regionG tabOK ?_ -- region 0
 simp (maxSteps := 2000000) -implicitDefEqProofs
 refine EV.seq ?_
 refine EV.seq ?_
 refine EV.regionG tabOK ?_ -- region 1
 simp (maxSteps := 2000000) -implicitDefEqProofs
 obtain ⟨z2, e2, e⟩ := run_split e
 refine EV.nrm (fun v : { v : (Unit) × (Unit) // z2 = .go v.1 } => (fun (v2 : Unit) (g2 : Unit) => (⟨[J, J, J, J, J, J, J, J, J, J, J, J, J, J, J, J, J, J, J, J, J, J], []⟩ : St)) v.1.1 v.1.2) ?_ ?_
 ·skip
  refine EV.block ?_
  refine EV.loopB (fun x : { x : Nat // x ≤ p0.fns.length ∧ rFnOf_l2 p1 (p0.fns.drop x) x = z2 } => (fun (j2 : Nat) => (⟨[J, .s p1, .ptr 0 0 0 0, J, J, .i .i64 (j2 : Int), J, J, J, J, J, J, J, J, J, J, J, J, J, J, J, J], [.arr 0 3 [[.ro 4 (p0.structs.map structC), .ro 3 (p0.enums.map enumC), .ro 4 (p0.fns.map fnC)]]]⟩ : St)) x.1) (fun x => p0.fns.length - x.1) ⟨0, Nat.zero_le _, e2⟩ ?_ ?_
  ·skip
   try dsimp only
   try dsimp only
   refine Sub.cutF 1 (by simp) ?_ ?_ <;> simp [List.range_succ, toIdx_range, passed]
  ·skip
   rintro ⟨j2, hi2, e2⟩
   simp only at hi2 e2 ⊢
   refine EV.seq ?_
   refine EV.seq ?_
   refine EV.regionG tabOK ?_ -- region 2
   simp (maxSteps := 2000000) -implicitDefEqProofs
   refine EV.room 8 (by rfl) (fun mj2 => ?_)
   simp at mj2
   refine EV.condT ?_
   simp -implicitDefEqProofs
   refine condT_intro (fun k1 => ?_) (fun k1 => ?_)
   ·try simp at k1
    have u1 : j2 < p0.fns.length := by omega
    obtain ⟨x2, hx2⟩ : ∃ z, p0.fns[j2] = z := ⟨_, rfl⟩
    have mx2 : x2 ∈ p0.fns := by rw [← hx2]; exact List.getElem_mem _
    rw [List.drop_eq_getElem_cons u1, hx2, rFnOf_l2] at e2
    refine EV.skip ?_
    simp only [thenK_normal, blockK_normal, scopeK_normal]
    refine EV.seq ?_
    refine EV.block ?_
    refine EV.seq ?_
    refine EV.regionG tabOK ?_ -- region 4
    simp (maxSteps := 2000000) -implicitDefEqProofs [k1, u1, hx2]
    refine EV.condT ?_
    simp -implicitDefEqProofs [k1, u1, hx2]
    refine condT_intro (fun k2 => ?_) (fun k2 => ?_)
    ·try simp at k2
     obtain ⟨f2, e2⟩ := pos_on2 e2 (by first | simpa using k2 | grind)
     try simp at f2
     refine EV.seq ?_
     refine EV.regionG tabOK ?_ -- region 5
     simp (maxSteps := 2000000) -implicitDefEqProofs [k1, u1, hx2]
     refine EV.ret ?_
     simp only [thenK_ret, blockK_ret, scopeK_ret, bodyK_ret]
     replace e := run_back e e2
     subst e
     refine Fin.pure0 ?_
     first | (simp; done) | (simp <;> grind)
    ·try simp at k2
     obtain ⟨f2, e2⟩ := neg_on2 e2 (by first | simpa using k2 | grind)
     try simp at f2
     refine EV.skip ?_
     simp only [thenK_normal, blockK_normal, scopeK_normal]
     refine EV.regionG tabOK ?_ -- region 3
     simp (maxSteps := 2000000) -implicitDefEqProofs [k1, u1, hx2]
     have w2 : IntKind.i64.wrap ((j2 : Int) + 1) = (j2 : Int) + 1 := wrap_in _ (by omega) (by omega)
     refine ⟨⟨j2 + 1, by omega, e2⟩, by dsimp only; omega, ?_⟩
     try dsimp only
     refine Sub.cutF 1 (by simp) ?_ ?_ <;> simp [List.range_succ, toIdx_range, passed, k1, u1, hx2, w2]
   ·try simp at k1
    have d1 : p0.fns.drop j2 = [] := List.drop_eq_nil_of_le (by omega)
    rw [d1, rFnOf_l2] at e2
    refine EV.exit ?_
    simp -implicitDefEqProofs
    refine ⟨⟨((), ()), e2.symm⟩, ?_⟩
    try dsimp only
    refine Sub.cutF 0 (by simp) ?_ ?_ <;> simp [List.range_succ, toIdx_range, passed]
 ·skip
  rintro ⟨⟨v2, g2⟩, e2⟩
  simp only [thenK_normal, blockK_normal, scopeK_normal, bodyK_normal]
  replace e := run_on e e2
  try dsimp only at e
  refine EV.seq ?_
  refine EV.regionG tabOK ?_ -- region 6
  simp (maxSteps := 2000000) -implicitDefEqProofs
  refine EV.ret ?_
  simp only [thenK_ret, blockK_ret, scopeK_ret, bodyK_ret]
  subst e
  refine Fin.pure0 ?_
  first | (simp; done) | (simp <;> grind)

theorem rFnOf_at (p1 : List UInt8) : ∀ l j v, rFnOf_l2 p1 l j = .ret v → v < (j : Int) + l.length
 | [], j, v, h => by simp [rFnOf_l2] at h
 | x :: l, j, v, h => by
  simp only [rFnOf_l2] at h
  split at h
  ·simp at h; subst h; simp; omega
  ·have := rFnOf_at p1 l (j + 1) v h
   simp; omega
theorem rFnOf_lt (p0 : SourceD) (p1 : List UInt8) : rFnOf p0 p1 < p0.fns.length := by
 unfold rFnOf
 cases h : rFnOf_l2 p1 p0.fns 0 with
 | ret v => have := rFnOf_at p1 _ _ _ h; simp only [Ctl.run]; omega
 | go v => simp only [Ctl.run]; omega


def rCopies (p0 : TyD) : Bool :=
 (((decide (p0.k = 0)) || (decide (p0.k = 1))) || (decide (p0.k = 5)))
set_option maxHeartbeats 40000000 in
theorem w_rCopies (p0 : TyD)  : QC prog 163 [.agg [.i .i64 p0.k, .s p0.name, .ro 3 (p0.l.map tyC)]] [] (.b (rCopies p0)) [] := by
 refine QC.of_body tabOK func163 rfl (by kernel_rfl) ?_
 simp only [f163]
 generalize e : rCopies p0 = R
 unfold rCopies at e
 refine EV.seq ?_
 refine EV.regionG tabOK ?_ -- region 0
 simp (maxSteps := 2000000) -implicitDefEqProofs
 refine EV.seq ?_
 refine EV.regionG tabOK ?_ -- region 1
 simp (maxSteps := 2000000) -implicitDefEqProofs +contextual
 refine EV.ret ?_
 simp only [thenK_ret, blockK_ret, scopeK_ret, bodyK_ret]
 subst e
 refine Fin.pure0 ?_
 first | (simp; done) | (simp <;> grind)

def rResolve_b (r_rResolve : SourceD → TyD → (TyD × Int)) (p0 : SourceD) (p1 : TyD) : TyD × Int :=
 (if p1.k = 1 then (p1, 0) else (if p1.k = 2 then (if 0 ≤ (rStructOf p0 p1.name) then (p1, 0) else (if (rEnumOf p0 p1.name) < 0 then ((TyD.mk 0 ([] : List UInt8) ([])), 71) else ((TyD.mk 3 p1.name p1.l), 0))) else (if p1.k = 3 then (if (rEnumOf p0 p1.name) < 0 then ((TyD.mk 0 ([] : List UInt8) ([])), 71) else (p1, 0)) else (if p1.k = 7 then (if (rFnOf p0 p1.name) < 0 then ((TyD.mk 0 ([] : List UInt8) ([])), 71) else (p1, 0)) else (bnd (if p1.k = 4 then true else (if p1.k = 5 then true else (decide (p1.k = 6)))) fun (v19 : Bool) => (if v19 = true then (if ¬ ((p1.l.length : Int) = 1) then ((TyD.mk 0 ([] : List UInt8) ([])), 80) else (bnd (p1.l.getD 0 default) fun (y23_3 : TyD) => (if ¬ ((r_rResolve p0 y23_3).2 = 0) then ((TyD.mk 0 ([] : List UInt8) ([])), (r_rResolve p0 y23_3).2) else ((TyD.mk p1.k p1.name ([((r_rResolve p0 y23_3).1)] : List TyD)), 0)))) else ((TyD.mk 0 ([] : List UInt8) ([])), 80)))))))
set_option maxHeartbeats 40000000 in
theorem w_rResolve_b (r_rResolve : SourceD → TyD → (TyD × Int)) (p0 : SourceD) (p1 : TyD)  (D : Nat) (H_rResolve : ∀ (u0 : SourceD) (u1 : TyD), SizeOf.sizeOf u1 < D → QC prog 85 [.agg [.ro 4 (u0.structs.map structC), .ro 3 (u0.enums.map enumC), .ro 4 (u0.fns.map fnC)], .agg [.i .i64 u1.k, .s u1.name, .ro 3 (u1.l.map tyC)]] [] (.tup [.agg [.i .i64 (((r_rResolve u0 u1).1).k), .s (((r_rResolve u0 u1).1).name), .ro 3 ((((r_rResolve u0 u1).1).l).map tyC)], .i .i64 ((r_rResolve u0 u1).2)]) []) (hD : SizeOf.sizeOf p1 ≤ D) : QC prog 85 [.agg [.ro 4 (p0.structs.map structC), .ro 3 (p0.enums.map enumC), .ro 4 (p0.fns.map fnC)], .agg [.i .i64 p1.k, .s p1.name, .ro 3 (p1.l.map tyC)]] [] (.tup [.agg [.i .i64 (((rResolve_b r_rResolve p0 p1).1).k), .s (((rResolve_b r_rResolve p0 p1).1).name), .ro 3 ((((rResolve_b r_rResolve p0 p1).1).l).map tyC)], .i .i64 ((rResolve_b r_rResolve p0 p1).2)]) [] := by
 refine QC.of_body tabOK func85 rfl (by kernel_rfl) ?_
 simp only [f85]
 generalize e : rResolve_b r_rResolve p0 p1 = R
 unfold rResolve_b at e
 refine EV.seq ?_
 refine EV.regionG tabOK ?_ -- region 0
 simp (maxSteps := 2000000) -implicitDefEqProofs
 refine EV.seq ?_
 refine EV.seq ?_
 refine EV.regionG tabOK ?_ -- region 1
 simp (maxSteps := 2000000) -implicitDefEqProofs
 refine EV.block ?_
 refine EV.seq ?_
 refine EV.regionG tabOK ?_ -- region 2
 simp (maxSteps := 2000000) -implicitDefEqProofs
 refine EV.condT ?_
 simp -implicitDefEqProofs
 refine condT_intro (fun k1 => ?_) (fun k1 => ?_)
 ·try simp at k1
  obtain ⟨f1, e⟩ := pos_on2 e (by first | simpa using k1 | grind)
  try simp at f1
  refine EV.seq ?_
  refine EV.regionG tabOK ?_ -- region 3
  simp (maxSteps := 2000000) -implicitDefEqProofs
  refine EV.ret ?_
  simp only [thenK_ret, blockK_ret, scopeK_ret, bodyK_ret]
  subst e
  refine Fin.pure0 ?_
  first | (simp; done) | (simp <;> grind)
 ·try simp at k1
  obtain ⟨f1, e⟩ := neg_on2 e (by first | simpa using k1 | grind)
  try simp at f1
  refine EV.seq ?_
  refine EV.regionG tabOK ?_ -- region 4
  simp (maxSteps := 2000000) -implicitDefEqProofs
  refine EV.condT ?_
  simp -implicitDefEqProofs
  refine condT_intro (fun k2 => ?_) (fun k2 => ?_)
  ·try simp at k2
   obtain ⟨f2, e⟩ := pos_on2 e (by first | simpa using k2 | grind)
   try simp at f2
   refine EV.seq ?_
   refine EV.seq ?_
   have := rStructOf_lt p0 p1.name
   refine EV.regionG tabOK ?_ -- region 5
   simp (maxSteps := 2000000) -implicitDefEqProofs
   refine callG_fun (w_rStructOf p0 p1.name) ?_ ?_
   ·simp
   simp (maxSteps := 2000000) -implicitDefEqProofs
   refine EV.condT ?_
   simp -implicitDefEqProofs
   refine condT_intro (fun k3 => ?_) (fun k3 => ?_)
   ·try simp at k3
    obtain ⟨f3, e⟩ := pos_on2 e (by first | simpa using k3 | grind)
    try simp at f3
    refine EV.seq ?_
    refine EV.regionG tabOK ?_ -- region 6
    simp (maxSteps := 2000000) -implicitDefEqProofs
    refine EV.ret ?_
    simp only [thenK_ret, blockK_ret, scopeK_ret, bodyK_ret]
    subst e
    refine Fin.pure0 ?_
    first | (simp; done) | (simp <;> grind)
   ·try simp at k3
    obtain ⟨f3, e⟩ := neg_on2 e (by first | simpa using k3 | grind)
    try simp at f3
    refine EV.skip ?_
    simp only [thenK_normal, blockK_normal, scopeK_normal]
    refine EV.seq ?_
    refine EV.seq ?_
    have := rEnumOf_lt p0 p1.name
    refine EV.regionG tabOK ?_ -- region 7
    simp (maxSteps := 2000000) -implicitDefEqProofs
    refine callG_fun (w_rEnumOf p0 p1.name) ?_ ?_
    ·simp
    simp (maxSteps := 2000000) -implicitDefEqProofs
    refine EV.condT ?_
    simp -implicitDefEqProofs
    refine condT_intro (fun k4 => ?_) (fun k4 => ?_)
    ·try simp at k4
     obtain ⟨f4, e⟩ := pos_on2 e (by first | simpa using k4 | grind)
     try simp at f4
     refine EV.seq ?_
     refine EV.regionG tabOK ?_ -- region 8
     simp (maxSteps := 2000000) -implicitDefEqProofs
     refine EV.ret ?_
     simp only [thenK_ret, blockK_ret, scopeK_ret, bodyK_ret]
     subst e
     refine Fin.data ?_ ?_
     ·simp [convV, conv1, conv0, cvOb, allP, allR, c0, Pu, take_len_map, List.getD, List.range_succ]
     ·simp [List.range_succ]
    ·try simp at k4
     obtain ⟨f4, e⟩ := neg_on2 e (by first | simpa using k4 | grind)
     try simp at f4
     refine EV.skip ?_
     simp only [thenK_normal, blockK_normal, scopeK_normal]
     refine EV.seq ?_
     refine EV.regionG tabOK ?_ -- region 9
     simp (maxSteps := 2000000) -implicitDefEqProofs
     refine EV.ret ?_
     simp only [thenK_ret, blockK_ret, scopeK_ret, bodyK_ret]
     subst e
     refine Fin.pure0 ?_
     first | (simp; done) | (simp <;> grind)
  ·try simp at k2
   obtain ⟨f2, e⟩ := neg_on2 e (by first | simpa using k2 | grind)
   try simp at f2
   refine EV.seq ?_
   refine EV.regionG tabOK ?_ -- region 10
   simp (maxSteps := 2000000) -implicitDefEqProofs
   refine EV.condT ?_
   simp -implicitDefEqProofs
   refine condT_intro (fun k5 => ?_) (fun k5 => ?_)
   ·try simp at k5
    obtain ⟨f5, e⟩ := pos_on2 e (by first | simpa using k5 | grind)
    try simp at f5
    refine EV.seq ?_
    refine EV.seq ?_
    have := rEnumOf_lt p0 p1.name
    refine EV.regionG tabOK ?_ -- region 11
    simp (maxSteps := 2000000) -implicitDefEqProofs
    refine callG_fun (w_rEnumOf p0 p1.name) ?_ ?_
    ·simp
    simp (maxSteps := 2000000) -implicitDefEqProofs
    refine EV.condT ?_
    simp -implicitDefEqProofs
    refine condT_intro (fun k6 => ?_) (fun k6 => ?_)
    ·try simp at k6
     obtain ⟨f6, e⟩ := pos_on2 e (by first | simpa using k6 | grind)
     try simp at f6
     refine EV.seq ?_
     refine EV.regionG tabOK ?_ -- region 12
     simp (maxSteps := 2000000) -implicitDefEqProofs
     refine EV.ret ?_
     simp only [thenK_ret, blockK_ret, scopeK_ret, bodyK_ret]
     subst e
     refine Fin.data ?_ ?_
     ·simp [convV, conv1, conv0, cvOb, allP, allR, c0, Pu, take_len_map, List.getD, List.range_succ]
     ·simp [List.range_succ]
    ·try simp at k6
     obtain ⟨f6, e⟩ := neg_on2 e (by first | simpa using k6 | grind)
     try simp at f6
     refine EV.skip ?_
     simp only [thenK_normal, blockK_normal, scopeK_normal]
     refine EV.seq ?_
     refine EV.regionG tabOK ?_ -- region 13
     simp (maxSteps := 2000000) -implicitDefEqProofs
     refine EV.ret ?_
     simp only [thenK_ret, blockK_ret, scopeK_ret, bodyK_ret]
     subst e
     refine Fin.pure0 ?_
     first | (simp; done) | (simp <;> grind)
   ·try simp at k5
    obtain ⟨f5, e⟩ := neg_on2 e (by first | simpa using k5 | grind)
    try simp at f5
    refine EV.seq ?_
    refine EV.regionG tabOK ?_ -- region 14
    simp (maxSteps := 2000000) -implicitDefEqProofs
    refine EV.condT ?_
    simp -implicitDefEqProofs
    refine condT_intro (fun k7 => ?_) (fun k7 => ?_)
    ·try simp at k7
     obtain ⟨f7, e⟩ := pos_on2 e (by first | simpa using k7 | grind)
     try simp at f7
     refine EV.seq ?_
     refine EV.seq ?_
     have := rFnOf_lt p0 p1.name
     refine EV.regionG tabOK ?_ -- region 15
     simp (maxSteps := 2000000) -implicitDefEqProofs
     refine callG_fun (w_rFnOf p0 p1.name) ?_ ?_
     ·simp
     simp (maxSteps := 2000000) -implicitDefEqProofs
     refine EV.condT ?_
     simp -implicitDefEqProofs
     refine condT_intro (fun k8 => ?_) (fun k8 => ?_)
     ·try simp at k8
      obtain ⟨f8, e⟩ := pos_on2 e (by first | simpa using k8 | grind)
      try simp at f8
      refine EV.seq ?_
      refine EV.regionG tabOK ?_ -- region 16
      simp (maxSteps := 2000000) -implicitDefEqProofs
      refine EV.ret ?_
      simp only [thenK_ret, blockK_ret, scopeK_ret, bodyK_ret]
      subst e
      refine Fin.data ?_ ?_
      ·simp [convV, conv1, conv0, cvOb, allP, allR, c0, Pu, take_len_map, List.getD, List.range_succ]
      ·simp [List.range_succ]
     ·try simp at k8
      obtain ⟨f8, e⟩ := neg_on2 e (by first | simpa using k8 | grind)
      try simp at f8
      refine EV.skip ?_
      simp only [thenK_normal, blockK_normal, scopeK_normal]
      refine EV.seq ?_
      refine EV.regionG tabOK ?_ -- region 17
      simp (maxSteps := 2000000) -implicitDefEqProofs
      refine EV.ret ?_
      simp only [thenK_ret, blockK_ret, scopeK_ret, bodyK_ret]
      subst e
      refine Fin.pure0 ?_
      first | (simp; done) | (simp <;> grind)
    ·try simp at k7
     obtain ⟨f7, e⟩ := neg_on2 e (by first | simpa using k7 | grind)
     try simp at f7
     refine EV.seq ?_
     refine EV.seq ?_
     refine EV.regionG tabOK ?_ -- region 18
     simp (maxSteps := 2000000) -implicitDefEqProofs
     obtain ⟨z19, e19, e⟩ := bnd_split e
     refine EV.nrm (fun v : { v : (Bool) × (Unit) // z19 = v.1 } => (fun (v19 : Bool) (g19 : Unit) => (⟨[J, J, .ptr 0 0 0 0, .ptr 1 0 0 0, .ptr 2 0 0 0, J, J, J, J, J, J, J, J, J, J, J, J, J, J, J, J, J, J, J, J, J, J, J, J, J, J, J, J, J, J, J, J, J, J, J, J, J, J, J, J, J, J, J, J, J, .b v19, J, J, J, J, J, J, J, J, J, J, J, J, J, J, J, J, J, J, J, J, J, J, J, J, J, J, J, J, J], [.arr 0 3 [[.ro 4 (p0.structs.map structC), .ro 3 (p0.enums.map enumC), .ro 4 (p0.fns.map fnC)]], .arr 0 3 [[.i .i64 p1.k, .s p1.name, .ro 3 (p1.l.map tyC)]], .arr 0 3 [[.i .i64 0, .s ([] : List UInt8), .c (.slice none 0 0)]]]⟩ : St)) v.1.1 v.1.2) ?_ ?_
     ·skip
      refine EV.condT ?_
      simp -implicitDefEqProofs
      refine condT_intro (fun k9 => ?_) (fun k9 => ?_)
      ·try simp at k9
       obtain ⟨f9, e19⟩ := pos_on2 e19 (by first | simpa using k9 | grind)
       try simp at f9
       refine EV.skip ?_
       simp only [thenK_normal, blockK_normal, scopeK_normal]
       refine ⟨⟨(true, ()), e19.symm⟩, ?_⟩
       try dsimp only
       refine Sub.cutF 3 (by simp) ?_ ?_ <;> simp [List.range_succ, toIdx_range, passed]
      ·try simp at k9
       obtain ⟨f9, e19⟩ := neg_on2 e19 (by first | simpa using k9 | grind)
       try simp at f9
       refine EV.seq ?_
       refine EV.regionG tabOK ?_ -- region 19
       simp (maxSteps := 2000000) -implicitDefEqProofs
       refine EV.condT ?_
       simp -implicitDefEqProofs
       refine condT_intro (fun k10 => ?_) (fun k10 => ?_)
       ·try simp at k10
        obtain ⟨f10, e19⟩ := pos_on2 e19 (by first | simpa using k10 | grind)
        try simp at f10
        refine EV.skip ?_
        simp only [thenK_normal, blockK_normal, scopeK_normal]
        refine ⟨⟨(true, ()), e19.symm⟩, ?_⟩
        try dsimp only
        refine Sub.cutF 3 (by simp) ?_ ?_ <;> simp [List.range_succ, toIdx_range, passed]
       ·try simp at k10
        obtain ⟨f10, e19⟩ := neg_on2 e19 (by first | simpa using k10 | grind)
        try simp at f10
        refine EV.regionG tabOK ?_ -- region 20
        simp (maxSteps := 2000000) -implicitDefEqProofs
        refine ⟨⟨((decide (p1.k = 6)), ()), e19.symm⟩, ?_⟩
        try dsimp only
        refine Sub.cutF 3 (by simp) ?_ ?_ <;> simp [List.range_succ, toIdx_range, passed]
     ·skip
      rintro ⟨⟨v19, g19⟩, e19⟩
      simp only [thenK_normal, blockK_normal, scopeK_normal, bodyK_normal]
      replace e := bnd_on e e19
      try dsimp only at e
      refine EV.condT ?_
      simp -implicitDefEqProofs
      refine condT_intro (fun k11 => ?_) (fun k11 => ?_)
      ·try simp at k11
       obtain ⟨f11, e⟩ := pos_on2 e (by first | simpa using k11 | grind)
       try simp at f11
       refine EV.seq ?_
       refine EV.seq ?_
       refine EV.regionG tabOK ?_ -- region 21
       simp (maxSteps := 2000000) -implicitDefEqProofs
       refine EV.condT ?_
       simp -implicitDefEqProofs
       refine condT_intro (fun k12 => ?_) (fun k12 => ?_)
       ·try simp at k12
        obtain ⟨f12, e⟩ := pos_on2 e (by first | simpa using k12 | grind)
        try simp at f12
        refine EV.seq ?_
        refine EV.regionG tabOK ?_ -- region 22
        simp (maxSteps := 2000000) -implicitDefEqProofs
        refine EV.ret ?_
        simp only [thenK_ret, blockK_ret, scopeK_ret, bodyK_ret]
        subst e
        refine Fin.data ?_ ?_
        ·simp [convV, conv1, conv0, cvOb, allP, allR, c0, Pu, take_len_map, List.getD, List.range_succ]
        ·simp [List.range_succ]
       ·try simp at k12
        obtain ⟨f12, e⟩ := neg_on2 e (by first | simpa using k12 | grind)
        try simp at f12
        refine EV.skip ?_
        simp only [thenK_normal, blockK_normal, scopeK_normal]
        refine EV.seq ?_
        obtain ⟨y23_3, gy23_3⟩ : ∃ z, (p1.l.getD 0 default) = z := ⟨_, rfl⟩
        replace e := bnd_on e gy23_3
        try dsimp only at e
        have b13 : 0 ≤ 0 ∧ 0 < (p1.l.length : Int) := by omega
        have c13 : 0 < p1.l.length := by omega
        have hy23_3 : p1.l[0] = y23_3 := by rw [← gy23_3, List.getD_eq_getElem?_getD, List.getElem?_eq_getElem c13]; rfl
        have my23_3 : y23_3 ∈ p1.l := by rw [← hy23_3]; exact List.getElem_mem _
        have zzy23_3 := List.sizeOf_lt_of_mem my23_3
        have := sz_TyD_l p1
        refine EV.drawG tabOK mixedOK ?_ -- region 23
        simp (maxSteps := 2000000) -implicitDefEqProofs [b13, c13, hy23_3]
        refine callG_fun (H_rResolve p0 y23_3 (by first | omega | (simp at *; omega))) ?_ ?_
        ·first | (simp; done) | (simp [b13, c13, hy23_3]; done)
        simp (maxSteps := 2000000) -implicitDefEqProofs [b13, c13, hy23_3]
        refine And.intro ?_ ?_
        ·first | decide +kernel | (simp -implicitDefEqProofs; decide +kernel) | (split <;> decide +kernel)
        try simp -implicitDefEqProofs
        refine EV.seq ?_
        refine EV.seq ?_
        refine EV.regionG tabOK ?_ -- region 24
        simp (maxSteps := 2000000) -implicitDefEqProofs [b13, c13, hy23_3]
        refine EV.condT ?_
        simp -implicitDefEqProofs [b13, c13, hy23_3]
        refine condT_intro (fun k14 => ?_) (fun k14 => ?_)
        ·try simp at k14
         obtain ⟨f14, e⟩ := pos_on2 e (by first | simpa using k14 | grind)
         try simp at f14
         refine EV.seq ?_
         refine EV.regionG tabOK ?_ -- region 25
         simp (maxSteps := 2000000) -implicitDefEqProofs [b13, c13, hy23_3]
         refine EV.ret ?_
         simp only [thenK_ret, blockK_ret, scopeK_ret, bodyK_ret]
         subst e
         refine Fin.data ?_ ?_
         ·simp [convV, conv1, conv0, cvOb, allP, allR, c0, Pu, take_len_map, List.getD, List.range_succ]
         ·simp [List.range_succ]
        ·try simp at k14
         obtain ⟨f14, e⟩ := neg_on2 e (by first | simpa using k14 | grind)
         try simp at f14
         refine EV.skip ?_
         simp only [thenK_normal, blockK_normal, scopeK_normal]
         refine EV.seq ?_
         refine EV.regionG tabOK ?_ -- region 26
         simp (maxSteps := 2000000) -implicitDefEqProofs [b13, c13, hy23_3]
         refine EV.ret ?_
         simp only [thenK_ret, blockK_ret, scopeK_ret, bodyK_ret]
         subst e
         refine Fin.data ?_ ?_
         ·simp [convV, conv1, conv0, cvOb, allP, allR, c0, Pu, take_len_map, List.getD, List.range_succ]
         ·simp [List.range_succ]
      ·try simp at k11
       obtain ⟨f11, e⟩ := neg_on2 e (by first | simpa using k11 | grind)
       try simp at f11
       refine EV.skip ?_
       simp only [thenK_normal, blockK_normal, scopeK_normal]
       refine EV.seq ?_
       refine EV.regionG tabOK ?_ -- region 27
       simp (maxSteps := 2000000) -implicitDefEqProofs
       refine EV.ret ?_
       simp only [thenK_ret, blockK_ret, scopeK_ret, bodyK_ret]
       subst e
       refine Fin.data ?_ ?_
       ·simp [convV, conv1, conv0, cvOb, allP, allR, c0, Pu, take_len_map, List.getD, List.range_succ]
       ·simp [List.range_succ]

def rResolve_f : Nat → SourceD → TyD → TyD × Int
 | 0, _, _ => default
 | k + 1, p0, p1 => rResolve_b (rResolve_f k) p0 p1
def rResolve (p0 : SourceD) (p1 : TyD) : TyD × Int := rResolve_f (SizeOf.sizeOf p1 + 1) p0 p1
theorem w_rResolve_f : ∀ k : Nat, (∀ (p0 : SourceD) (p1 : TyD), SizeOf.sizeOf p1 < k → QC prog 85 [.agg [.ro 4 (p0.structs.map structC), .ro 3 (p0.enums.map enumC), .ro 4 (p0.fns.map fnC)], .agg [.i .i64 p1.k, .s p1.name, .ro 3 (p1.l.map tyC)]] [] (.tup [.agg [.i .i64 (((rResolve_f k p0 p1).1).k), .s (((rResolve_f k p0 p1).1).name), .ro 3 ((((rResolve_f k p0 p1).1).l).map tyC)], .i .i64 ((rResolve_f k p0 p1).2)]) [])
 | 0 => by refine (fun _ _ h => absurd h (Nat.not_lt_zero _))
 | k + 1 => by refine (fun p0 p1 h => by rw [rResolve_f]; exact w_rResolve_b (rResolve_f k) p0 p1 k (w_rResolve_f k) (by omega))
theorem w_rResolve (p0 : SourceD) (p1 : TyD) : QC prog 85 [.agg [.ro 4 (p0.structs.map structC), .ro 3 (p0.enums.map enumC), .ro 4 (p0.fns.map fnC)], .agg [.i .i64 p1.k, .s p1.name, .ro 3 (p1.l.map tyC)]] [] (.tup [.agg [.i .i64 (((rResolve p0 p1).1).k), .s (((rResolve p0 p1).1).name), .ro 3 ((((rResolve p0 p1).1).l).map tyC)], .i .i64 ((rResolve p0 p1).2)]) [] := (w_rResolve_f (SizeOf.sizeOf p1 + 1)) p0 p1 (Nat.lt_succ_self _)


def rNoSpot (p0 : SpotD) : Bool :=
 ((decide (p0.local_ = 0)) && (decide ((p0.path.length : Int) = 0)))
set_option maxHeartbeats 40000000 in
theorem w_rNoSpot (p0 : SpotD)  : QC prog 93 [.agg [.i .i64 p0.local_, .ro 1 (p0.path.map (fun z => [.i .i64 z]))]] [] (.b (rNoSpot p0)) [] := by
 refine QC.of_body tabOK func93 rfl (by kernel_rfl) ?_
 simp only [f93]
 generalize e : rNoSpot p0 = R
 unfold rNoSpot at e
 refine EV.seq ?_
 refine EV.regionG tabOK ?_ -- region 0
 simp (maxSteps := 2000000) -implicitDefEqProofs
 refine EV.seq ?_
 refine EV.regionG tabOK ?_ -- region 1
 simp (maxSteps := 2000000) -implicitDefEqProofs +contextual
 refine EV.ret ?_
 simp only [thenK_ret, blockK_ret, scopeK_ret, bodyK_ret]
 subst e
 refine Fin.pure0 ?_
 first | (simp; done) | (simp <;> grind)

def rSameSpot_l4 (p1 : SpotD) : List Int → Nat → Ctl (Bool) (Unit)
 | [], _ => .go ()
 | x4 :: xs4, j4 => (bnd (p1.path.getD j4 default) fun (y6_8 : Int) => (if ¬ (x4 = y6_8) then .ret false else rSameSpot_l4 p1 xs4 (j4 + 1)))
def rSameSpot (p0 : SpotD) (p1 : SpotD) : Bool :=
 (if (¬ (p0.local_ = p1.local_)) ∨ (¬ ((p0.path.length : Int) = (p1.path.length : Int))) then false else (Ctl.run (rSameSpot_l4 p1 p0.path 0) fun (v4 : Unit) => true))
set_option maxHeartbeats 40000000 in
theorem w_rSameSpot (p0 : SpotD) (p1 : SpotD)  : QC prog 153 [.agg [.i .i64 p0.local_, .ro 1 (p0.path.map (fun z => [.i .i64 z]))], .agg [.i .i64 p1.local_, .ro 1 (p1.path.map (fun z => [.i .i64 z]))]] [] (.b (rSameSpot p0 p1)) [] := by
 refine QC.of_body tabOK func153 rfl (by kernel_rfl) ?_
 simp only [f153]
 generalize e : rSameSpot p0 p1 = R
 unfold rSameSpot at e
 refine EV.seq ?_
 refine EV.regionG tabOK ?_ -- region 0
 simp (maxSteps := 2000000) -implicitDefEqProofs
 refine EV.seq ?_
 refine EV.seq ?_
 refine EV.regionG tabOK ?_ -- region 1
 simp (maxSteps := 2000000) -implicitDefEqProofs +contextual
 refine EV.condT ?_
 simp -implicitDefEqProofs
 refine condT_intro (fun k1 => ?_) (fun k1 => ?_)
 ·try simp at k1
  obtain ⟨f1, e⟩ := pos_on2 e (by first | simpa using k1 | grind)
  try simp at f1
  refine EV.seq ?_
  refine EV.regionG tabOK ?_ -- region 2
  simp (maxSteps := 2000000) -implicitDefEqProofs
  refine EV.ret ?_
  simp only [thenK_ret, blockK_ret, scopeK_ret, bodyK_ret]
  subst e
  refine Fin.pure0 ?_
  first | (simp; done) | (simp <;> grind)
 ·try simp at k1
  obtain ⟨f1, e⟩ := neg_on2 e (by first | simpa using k1 | grind)
  try simp at f1
  refine EV.skip ?_
  simp only [thenK_normal, blockK_normal, scopeK_normal]
  refine EV.seq ?_
  refine EV.seq ?_
  refine EV.regionG tabOK ?_ -- region 3
  simp (maxSteps := 2000000) -implicitDefEqProofs
  obtain ⟨z4, e4, e⟩ := run_split e
  refine EV.nrm (fun v : { v : (Unit) × (Unit) // z4 = .go v.1 } => (fun (v4 : Unit) (g4 : Unit) => (⟨[J, J, J, J, J, J, J, J, J, J, J, J, J, J, J, J, J, J, J, J, J, J, J, J, J, J, J, J, J, J, J, J, J, J, J, J, J, J], []⟩ : St)) v.1.1 v.1.2) ?_ ?_
  ·skip
   refine EV.block ?_
   refine EV.loopB (fun x : { x : Nat // x ≤ p0.path.length ∧ rSameSpot_l4 p1 (p0.path.drop x) x = z4 } => (fun (j4 : Nat) => (⟨[J, J, .ptr 0 0 0 0, .ptr 1 0 0 0, J, .i .i64 (j4 : Int), J, J, J, J, J, J, J, J, J, J, J, J, J, J, J, J, J, J, J, J, J, J, J, J, J, J, J, J, J, J, J, J], [.arr 0 2 [[.i .i64 p0.local_, .ro 1 (p0.path.map (fun z => [.i .i64 z]))]], .arr 0 2 [[.i .i64 p1.local_, .ro 1 (p1.path.map (fun z => [.i .i64 z]))]]]⟩ : St)) x.1) (fun x => p0.path.length - x.1) ⟨0, Nat.zero_le _, e4⟩ ?_ ?_
   ·skip
    try dsimp only
    try dsimp only
    refine Sub.cutF 2 (by simp) ?_ ?_ <;> simp [List.range_succ, toIdx_range, passed]
   ·skip
    rintro ⟨j4, hi4, e4⟩
    simp only at hi4 e4 ⊢
    refine EV.seq ?_
    refine EV.seq ?_
    refine EV.regionG tabOK ?_ -- region 4
    simp (maxSteps := 2000000) -implicitDefEqProofs
    refine EV.room 22 (by rfl) (fun mj4 => ?_)
    simp at mj4
    refine EV.condT ?_
    simp -implicitDefEqProofs
    refine condT_intro (fun k2 => ?_) (fun k2 => ?_)
    ·try simp at k2
     have u2 : j4 < p0.path.length := by omega
     obtain ⟨x4, hx4⟩ : ∃ z, p0.path[j4] = z := ⟨_, rfl⟩
     have mx4 : x4 ∈ p0.path := by rw [← hx4]; exact List.getElem_mem _
     rw [List.drop_eq_getElem_cons u2, hx4, rSameSpot_l4] at e4
     refine EV.skip ?_
     simp only [thenK_normal, blockK_normal, scopeK_normal]
     refine EV.seq ?_
     refine EV.block ?_
     refine EV.seq ?_
     obtain ⟨y6_8, gy6_8⟩ : ∃ z, (p1.path.getD j4 default) = z := ⟨_, rfl⟩
     replace e4 := bnd_on e4 gy6_8
     try dsimp only at e4
     have b3 : 0 ≤ (j4 : Int) ∧ (j4 : Int) < (p1.path.length : Int) := by omega
     have c3 : j4 < p1.path.length := by omega
     have hy6_8 : p1.path[j4] = y6_8 := by rw [← gy6_8, List.getD_eq_getElem?_getD, List.getElem?_eq_getElem c3]; rfl
     have my6_8 : y6_8 ∈ p1.path := by rw [← hy6_8]; exact List.getElem_mem _
     refine EV.drawG tabOK mixedOK ?_ -- region 6
     simp (maxSteps := 2000000) -implicitDefEqProofs [k2, u2, hx4, b3, c3, hy6_8]
     refine And.intro ?_ ?_
     ·first | decide +kernel | (simp -implicitDefEqProofs; decide +kernel) | (split <;> decide +kernel)
     try simp -implicitDefEqProofs
     refine EV.condT ?_
     simp -implicitDefEqProofs [k2, u2, hx4, b3, c3, hy6_8]
     refine condT_intro (fun k4 => ?_) (fun k4 => ?_)
     ·try simp at k4
      obtain ⟨f4, e4⟩ := pos_on2 e4 (by first | simpa using k4 | grind)
      try simp at f4
      refine EV.seq ?_
      refine EV.regionG tabOK ?_ -- region 7
      simp (maxSteps := 2000000) -implicitDefEqProofs [k2, u2, hx4, b3, c3, hy6_8]
      refine EV.ret ?_
      simp only [thenK_ret, blockK_ret, scopeK_ret, bodyK_ret]
      replace e := run_back e e4
      subst e
      refine Fin.pure0 ?_
      first | (simp; done) | (simp <;> grind)
     ·try simp at k4
      obtain ⟨f4, e4⟩ := neg_on2 e4 (by first | simpa using k4 | grind)
      try simp at f4
      refine EV.skip ?_
      simp only [thenK_normal, blockK_normal, scopeK_normal]
      refine EV.regionG tabOK ?_ -- region 5
      simp (maxSteps := 2000000) -implicitDefEqProofs [k2, u2, hx4, b3, c3, hy6_8]
      have w4 : IntKind.i64.wrap ((j4 : Int) + 1) = (j4 : Int) + 1 := wrap_in _ (by omega) (by omega)
      refine ⟨⟨j4 + 1, by omega, e4⟩, by dsimp only; omega, ?_⟩
      try dsimp only
      refine Sub.cutF 2 (by simp) ?_ ?_ <;> simp [List.range_succ, toIdx_range, passed, k2, u2, hx4, b3, c3, hy6_8, w4]
    ·try simp at k2
     have d2 : p0.path.drop j4 = [] := List.drop_eq_nil_of_le (by omega)
     rw [d2, rSameSpot_l4] at e4
     refine EV.exit ?_
     simp -implicitDefEqProofs
     refine ⟨⟨((), ()), e4.symm⟩, ?_⟩
     try dsimp only
     refine Sub.cutF 0 (by simp) ?_ ?_ <;> simp [List.range_succ, toIdx_range, passed]
  ·skip
   rintro ⟨⟨v4, g4⟩, e4⟩
   simp only [thenK_normal, blockK_normal, scopeK_normal, bodyK_normal]
   replace e := run_on e e4
   try dsimp only at e
   refine EV.seq ?_
   refine EV.regionG tabOK ?_ -- region 8
   simp (maxSteps := 2000000) -implicitDefEqProofs
   refine EV.ret ?_
   simp only [thenK_ret, blockK_ret, scopeK_ret, bodyK_ret]
   subst e
   refine Fin.pure0 ?_
   first | (simp; done) | (simp <;> grind)
def rType_l6 (p0 : SourceD) : List Int → Bool → TyD → Ctl (TyD × Bool × Int) (Bool × TyD)
 | [], a6_0, a6_1 => .go (a6_0, a6_1)
 | x6 :: xs6, a6_0, a6_1 => (if x6 = (-1) then (if (((¬ (a6_1.k = 4)) ∧ (¬ (a6_1.k = 5))) ∧ (¬ (a6_1.k = 6))) ∨ (¬ ((a6_1.l.length : Int) = 1)) then .ret ((TyD.mk 0 ([] : List UInt8) ([])), false, 84) else (bnd (a6_1.l.getD 0 default) fun (y13_2 : TyD) => rType_l6 p0 xs6 (a6_0 || (decide (a6_1.k = 5))) y13_2)) else (bnd (p0.structs.getD (((rStructOf p0 a6_1.name)).toNat) default) fun (y15_16 : StructD) => (if (((¬ (a6_1.k = 2)) ∨ ((rStructOf p0 a6_1.name) < 0)) ∨ (x6 < 0)) ∨ ((y15_16.fields.length : Int) ≤ x6) then .ret ((TyD.mk 0 ([] : List UInt8) ([])), false, 84) else (bnd (y15_16.fields.getD ((x6).toNat) default) fun (y17_8 : FieldD) => (if ¬ ((rResolve p0 y17_8.ty).2 = 0) then .ret ((TyD.mk 0 ([] : List UInt8) ([])), false, 84) else rType_l6 p0 xs6 a6_0 ((rResolve p0 y17_8.ty).1))))))
def rType (p0 : SourceD) (p1 : BodyD) (p2 : SpotD) : TyD × Bool × Int :=
 (if (p2.local_ < 0) ∨ ((p1.locals.length : Int) ≤ p2.local_) then ((TyD.mk 0 ([] : List UInt8) ([])), false, 84) else (bnd (p1.locals.getD ((p2.local_).toNat) default) fun (y3_4 : LocalD) => (Ctl.run (rType_l6 p0 p2.path false y3_4.ty) fun (v6 : Bool × TyD) => (v6.2, v6.1, 0))))
set_option maxHeartbeats 40000000 in
theorem w_rType (p0 : SourceD) (p1 : BodyD) (p2 : SpotD)  : QC prog 25 [.agg [.ro 4 (p0.structs.map structC), .ro 3 (p0.enums.map enumC), .ro 4 (p0.fns.map fnC)], .agg [.s p1.name, .i .i64 p1.params, .ro 4 (p1.locals.map localC), .ro 17 (p1.blocks.map blockC)], .agg [.i .i64 p2.local_, .ro 1 (p2.path.map (fun z => [.i .i64 z]))]] [] (.tup [.agg [.i .i64 (((rType p0 p1 p2).1).k), .s (((rType p0 p1 p2).1).name), .ro 3 ((((rType p0 p1 p2).1).l).map tyC)], .b ((rType p0 p1 p2).2.1), .i .i64 ((rType p0 p1 p2).2.2)]) [] := by
 refine QC.of_body tabOK func25 rfl (by kernel_rfl) ?_
 simp only [f25]
 generalize e : rType p0 p1 p2 = R
 unfold rType at e
 refine EV.seq ?_
 refine EV.regionG tabOK ?_ -- region 0
 simp (maxSteps := 2000000) -implicitDefEqProofs
 refine EV.seq ?_
 refine EV.seq ?_
 refine EV.regionG tabOK ?_ -- region 1
 simp (maxSteps := 2000000) -implicitDefEqProofs +contextual
 refine EV.condT ?_
 simp -implicitDefEqProofs
 refine condT_intro (fun k1 => ?_) (fun k1 => ?_)
 ·try simp at k1
  obtain ⟨f1, e⟩ := pos_on2 e (by first | simpa using k1 | grind)
  try simp at f1
  refine EV.seq ?_
  refine EV.regionG tabOK ?_ -- region 2
  simp (maxSteps := 2000000) -implicitDefEqProofs
  refine EV.ret ?_
  simp only [thenK_ret, blockK_ret, scopeK_ret, bodyK_ret]
  subst e
  refine Fin.data ?_ ?_
  ·simp [convV, conv1, conv0, cvOb, allP, allR, c0, Pu, take_len_map, List.getD, List.range_succ]
  ·simp [List.range_succ]
 ·try simp at k1
  obtain ⟨f1, e⟩ := neg_on2 e (by first | simpa using k1 | grind)
  try simp at f1
  refine EV.skip ?_
  simp only [thenK_normal, blockK_normal, scopeK_normal]
  refine EV.seq ?_
  obtain ⟨y3_4, gy3_4⟩ : ∃ z, (p1.locals.getD ((p2.local_).toNat) default) = z := ⟨_, rfl⟩
  replace e := bnd_on e gy3_4
  try dsimp only at e
  have b2 : 0 ≤ p2.local_ ∧ p2.local_ < (p1.locals.length : Int) := by omega
  have c2 : (p2.local_).toNat < p1.locals.length := by omega
  have hy3_4 : p1.locals[(p2.local_).toNat] = y3_4 := by rw [← gy3_4, List.getD_eq_getElem?_getD, List.getElem?_eq_getElem c2]; rfl
  have my3_4 : y3_4 ∈ p1.locals := by rw [← hy3_4]; exact List.getElem_mem _
  refine EV.regionG tabOK ?_ -- region 3
  simp (maxSteps := 2000000) -implicitDefEqProofs [b2, c2, hy3_4]
  refine EV.seq ?_
  refine EV.regionG tabOK ?_ -- region 4
  simp (maxSteps := 2000000) -implicitDefEqProofs [b2, c2, hy3_4]
  refine EV.seq ?_
  refine EV.seq ?_
  refine EV.regionG tabOK ?_ -- region 5
  simp (maxSteps := 2000000) -implicitDefEqProofs [b2, c2, hy3_4]
  obtain ⟨z6, e6, e⟩ := run_split e
  refine EV.nrm (fun v : { v : (Bool × TyD) × (Unit) // z6 = .go v.1 } => (fun (v6 : Bool × TyD) (g6 : Unit) => (⟨[J, J, J, J, J, J, .ptr 3 0 0 0, J, J, .ptr 4 0 0 0, .b v6.1, J, J, J, J, J, J, J, J, J, J, J, J, J, J, J, J, J, J, J, J, J, J, J, J, J, J, J, J, J, J, J, J, J, J, J, J, J, J, J, J, J, J, J, J, J, J, J, J, J, J, J, J, J, J, J, J, J, J, J, J, J, J, J, J, J, J, J, J, J, J, J, J, J, J, J, J, J, J, J, J, J, J, J, J, J, J, J, J, J, J, J, J, J, J, J, J, J, J, J, J, J, J, J, J, J, J, J, J, J, J, J, J, J, J, J, J], [.arr 0 3 [[.ro 4 (p0.structs.map structC), .ro 3 (p0.enums.map enumC), .ro 4 (p0.fns.map fnC)]], .arr 0 4 [[.s p1.name, .i .i64 p1.params, .ro 4 (p1.locals.map localC), .ro 17 (p1.blocks.map blockC)]], .arr 0 2 [[.i .i64 p2.local_, .ro 1 (p2.path.map (fun z => [.i .i64 z]))]], .arr 0 3 [[.i .i64 0, .s ([] : List UInt8), .c (.slice none 0 0)]], .arr 0 3 [[.i .i64 v6.2.k, .s v6.2.name, .ro 3 (v6.2.l.map tyC)]]]⟩ : St)) v.1.1 v.1.2) ?_ ?_
  ·skip
   refine EV.block ?_
   refine EV.loopB (fun x : { x : Nat × Bool × TyD // x.1 ≤ p2.path.length ∧ rType_l6 p0 (p2.path.drop x.1) x.2.1 x.2.2 = z6 } => (fun (j6 : Nat) (a6_0 : Bool) (a6_1 : TyD) => (⟨[J, J, J, .ptr 0 0 0 0, J, .ptr 2 0 0 0, .ptr 3 0 0 0, J, J, .ptr 4 0 0 0, .b a6_0, .i .i64 (j6 : Int), J, J, J, J, J, J, J, J, J, J, J, J, J, J, J, J, J, J, J, J, J, J, J, J, J, J, J, J, J, J, J, J, J, J, J, J, J, J, J, J, J, J, J, J, J, J, J, J, J, J, J, J, J, J, J, J, J, J, J, J, J, J, J, J, J, J, J, J, J, J, J, J, J, J, J, J, J, J, J, J, J, J, J, J, J, J, J, J, J, J, J, J, J, J, J, J, J, J, J, J, J, J, J, J, J, J, J, J, J, J, J, J, J, J, J], [.arr 0 3 [[.ro 4 (p0.structs.map structC), .ro 3 (p0.enums.map enumC), .ro 4 (p0.fns.map fnC)]], .arr 0 4 [[.s p1.name, .i .i64 p1.params, .ro 4 (p1.locals.map localC), .ro 17 (p1.blocks.map blockC)]], .arr 0 2 [[.i .i64 p2.local_, .ro 1 (p2.path.map (fun z => [.i .i64 z]))]], .arr 0 3 [[.i .i64 0, .s ([] : List UInt8), .c (.slice none 0 0)]], .arr 0 3 [[.i .i64 a6_1.k, .s a6_1.name, .ro 3 (a6_1.l.map tyC)]]]⟩ : St)) x.1.1 x.1.2.1 x.1.2.2) (fun x => p2.path.length - x.1.1) ⟨(0, false, y3_4.ty), Nat.zero_le _, e6⟩ ?_ ?_
   ·skip
    try dsimp only
    try dsimp only
    refine Sub.cutF 5 (by simp) ?_ ?_ <;> simp [List.range_succ, toIdx_range, passed, b2, c2, hy3_4]
   ·skip
    rintro ⟨⟨j6, a6_0, a6_1⟩, hi6, e6⟩
    simp only at hi6 e6 ⊢
    refine EV.seq ?_
    refine EV.seq ?_
    refine EV.regionG tabOK ?_ -- region 6
    simp (maxSteps := 2000000) -implicitDefEqProofs [b2, c2, hy3_4]
    refine EV.room 37 (by rfl) (fun mj6 => ?_)
    simp at mj6
    refine EV.condT ?_
    simp -implicitDefEqProofs [b2, c2, hy3_4]
    refine condT_intro (fun k3 => ?_) (fun k3 => ?_)
    ·try simp at k3
     have u3 : j6 < p2.path.length := by omega
     obtain ⟨x6, hx6⟩ : ∃ z, p2.path[j6] = z := ⟨_, rfl⟩
     have mx6 : x6 ∈ p2.path := by rw [← hx6]; exact List.getElem_mem _
     rw [List.drop_eq_getElem_cons u3, hx6, rType_l6] at e6
     refine EV.skip ?_
     simp only [thenK_normal, blockK_normal, scopeK_normal]
     refine EV.seq ?_
     refine EV.block ?_
     refine EV.seq ?_
     refine EV.regionG tabOK ?_ -- region 8
     simp (maxSteps := 2000000) -implicitDefEqProofs [b2, c2, hy3_4, k3, u3, hx6]
     refine EV.seq ?_
     refine EV.seq ?_
     refine EV.regionG tabOK ?_ -- region 9
     simp (maxSteps := 2000000) -implicitDefEqProofs [b2, c2, hy3_4, k3, u3, hx6]
     refine EV.condT ?_
     simp -implicitDefEqProofs [b2, c2, hy3_4, k3, u3, hx6]
     refine condT_intro (fun k4 => ?_) (fun k4 => ?_)
     ·try simp at k4
      obtain ⟨f4, e6⟩ := pos_on2 e6 (by first | simpa using k4 | grind)
      try simp at f4
      refine EV.seq ?_
      refine EV.seq ?_
      refine EV.regionG tabOK ?_ -- region 10
      simp (maxSteps := 2000000) -implicitDefEqProofs +contextual [b2, c2, hy3_4, k3, u3, hx6]
      refine EV.condT ?_
      simp -implicitDefEqProofs [b2, c2, hy3_4, k3, u3, hx6]
      refine condT_intro (fun k5 => ?_) (fun k5 => ?_)
      ·try simp at k5
       obtain ⟨f5, e6⟩ := pos_on2 e6 (by first | simpa using k5 | grind)
       try simp at f5
       refine EV.seq ?_
       refine EV.regionG tabOK ?_ -- region 11
       simp (maxSteps := 2000000) -implicitDefEqProofs [b2, c2, hy3_4, k3, u3, hx6]
       refine EV.ret ?_
       simp only [thenK_ret, blockK_ret, scopeK_ret, bodyK_ret]
       replace e := run_back e e6
       subst e
       refine Fin.data ?_ ?_
       ·simp [convV, conv1, conv0, cvOb, allP, allR, c0, Pu, take_len_map, List.getD, List.range_succ]
       ·simp [List.range_succ]
      ·try simp at k5
       obtain ⟨f5, e6⟩ := neg_on2 e6 (by first | simpa using k5 | grind)
       try simp at f5
       refine EV.skip ?_
       simp only [thenK_normal, blockK_normal, scopeK_normal]
       refine EV.seq ?_
       refine EV.regionG tabOK ?_ -- region 12
       simp (maxSteps := 2000000) -implicitDefEqProofs +contextual [b2, c2, hy3_4, k3, u3, hx6]
       refine EV.seq ?_
       obtain ⟨y13_2, gy13_2⟩ : ∃ z, (a6_1.l.getD 0 default) = z := ⟨_, rfl⟩
       replace e6 := bnd_on e6 gy13_2
       try dsimp only at e6
       have b6 : 0 ≤ 0 ∧ 0 < (a6_1.l.length : Int) := by omega
       have c6 : 0 < a6_1.l.length := by omega
       have hy13_2 : a6_1.l[0] = y13_2 := by rw [← gy13_2, List.getD_eq_getElem?_getD, List.getElem?_eq_getElem c6]; rfl
       have my13_2 : y13_2 ∈ a6_1.l := by rw [← hy13_2]; exact List.getElem_mem _
       refine EV.regionG tabOK ?_ -- region 13
       simp (maxSteps := 2000000) -implicitDefEqProofs [b2, c2, hy3_4, k3, u3, hx6, b6, c6, hy13_2]
       refine EV.exit ?_
       simp -implicitDefEqProofs
       refine EV.regionG tabOK ?_ -- region 7
       simp (maxSteps := 2000000) -implicitDefEqProofs [b2, c2, hy3_4, k3, u3, hx6, b6, c6, hy13_2]
       have w6 : IntKind.i64.wrap ((j6 : Int) + 1) = (j6 : Int) + 1 := wrap_in _ (by omega) (by omega)
       refine ⟨⟨(j6 + 1, (a6_0 || (decide (a6_1.k = 5))), y13_2), by omega, e6⟩, by dsimp only; omega, ?_⟩
       try dsimp only
       refine Sub.cutF 5 (by simp) ?_ ?_ <;> simp [List.range_succ, toIdx_range, passed, b2, c2, hy3_4, k3, u3, hx6, b6, c6, hy13_2, w6]
     ·try simp at k4
      obtain ⟨f4, e6⟩ := neg_on2 e6 (by first | simpa using k4 | grind)
      try simp at f4
      refine EV.skip ?_
      simp only [thenK_normal, blockK_normal, scopeK_normal]
      refine EV.seq ?_
      have := rStructOf_lt p0 a6_1.name
      refine EV.regionG tabOK ?_ -- region 14
      simp (maxSteps := 2000000) -implicitDefEqProofs [b2, c2, hy3_4, k3, u3, hx6]
      refine callG_fun (w_rStructOf p0 a6_1.name) ?_ ?_
      ·first | (simp; done) | (simp [b2, c2, hy3_4, k3, u3, hx6]; done)
      simp (maxSteps := 2000000) -implicitDefEqProofs [b2, c2, hy3_4, k3, u3, hx6]
      refine EV.seq ?_
      refine EV.seq ?_
      obtain ⟨y15_16, gy15_16⟩ : ∃ z, (p0.structs.getD (((rStructOf p0 a6_1.name)).toNat) default) = z := ⟨_, rfl⟩
      replace e6 := bnd_on e6 gy15_16
      try dsimp only at e6
      by_cases k7 : a6_1.k = 2
      ·skip
       have kk7 := k7
       try simp at kk7
       by_cases k8 : (rStructOf p0 a6_1.name) < 0
       ·skip
        have kk8 := k8
        try simp at kk8
        refine EV.regionG tabOK ?_ -- region 15
        simp (maxSteps := 2000000) -implicitDefEqProofs +contextual [b2, c2, hy3_4, k3, u3, hx6, k7, kk7, k8, kk8]
        refine EV.condT ?_
        simp -implicitDefEqProofs [b2, c2, hy3_4, k3, u3, hx6, k7, kk7, k8, kk8]
        replace e6 := pos_on e6 (by simp [b2, c2, hy3_4, k3, u3, hx6, k7, kk7, k8, kk8])
        refine EV.seq ?_
        refine EV.regionG tabOK ?_ -- region 16
        simp (maxSteps := 2000000) -implicitDefEqProofs [b2, c2, hy3_4, k3, u3, hx6, k7, kk7, k8, kk8]
        refine EV.ret ?_
        simp only [thenK_ret, blockK_ret, scopeK_ret, bodyK_ret]
        replace e := run_back e e6
        subst e
        refine Fin.data ?_ ?_
        ·simp [convV, conv1, conv0, cvOb, allP, allR, c0, Pu, take_len_map, List.getD, List.range_succ]
        ·simp [List.range_succ]
       ·skip
        have kk8 := k8
        try simp at kk8
        by_cases k9 : x6 < 0
        ·skip
         have kk9 := k9
         try simp at kk9
         refine EV.regionG tabOK ?_ -- region 15
         simp (maxSteps := 2000000) -implicitDefEqProofs +contextual [b2, c2, hy3_4, k3, u3, hx6, k7, kk7, k8, kk8, k9, kk9]
         refine EV.condT ?_
         simp -implicitDefEqProofs [b2, c2, hy3_4, k3, u3, hx6, k7, kk7, k8, kk8, k9, kk9]
         replace e6 := pos_on e6 (by simp [b2, c2, hy3_4, k3, u3, hx6, k7, kk7, k8, kk8, k9, kk9])
         refine EV.seq ?_
         refine EV.regionG tabOK ?_ -- region 16
         simp (maxSteps := 2000000) -implicitDefEqProofs [b2, c2, hy3_4, k3, u3, hx6, k7, kk7, k8, kk8, k9, kk9]
         refine EV.ret ?_
         simp only [thenK_ret, blockK_ret, scopeK_ret, bodyK_ret]
         replace e := run_back e e6
         subst e
         refine Fin.data ?_ ?_
         ·simp [convV, conv1, conv0, cvOb, allP, allR, c0, Pu, take_len_map, List.getD, List.range_succ]
         ·simp [List.range_succ]
        ·skip
         have kk9 := k9
         try simp at kk9
         have b10 : 0 ≤ (rStructOf p0 a6_1.name) ∧ (rStructOf p0 a6_1.name) < (p0.structs.length : Int) := by omega
         have c10 : ((rStructOf p0 a6_1.name)).toNat < p0.structs.length := by omega
         have hy15_16 : p0.structs[((rStructOf p0 a6_1.name)).toNat] = y15_16 := by rw [← gy15_16, List.getD_eq_getElem?_getD, List.getElem?_eq_getElem c10]; rfl
         have my15_16 : y15_16 ∈ p0.structs := by rw [← hy15_16]; exact List.getElem_mem _
         refine EV.regionG tabOK ?_ -- region 15
         simp (maxSteps := 2000000) -implicitDefEqProofs +contextual [b2, c2, hy3_4, k3, u3, hx6, k7, kk7, k8, kk8, k9, kk9, b10, c10, hy15_16]
         refine EV.condT ?_
         simp -implicitDefEqProofs [b2, c2, hy3_4, k3, u3, hx6, k7, kk7, k8, kk8, k9, kk9, b10, c10, hy15_16]
         refine condT_intro (fun k11 => ?_) (fun k11 => ?_)
         ·try simp at k11
          obtain ⟨f11, e6⟩ := pos_on2 e6 (by first | simpa [k7, kk7, k8, kk8, k9, kk9] using k11 | grind)
          try simp at f11
          refine EV.seq ?_
          refine EV.regionG tabOK ?_ -- region 16
          simp (maxSteps := 2000000) -implicitDefEqProofs [b2, c2, hy3_4, k3, u3, hx6, k7, kk7, k8, kk8, k9, kk9, b10, c10, hy15_16]
          refine EV.ret ?_
          simp only [thenK_ret, blockK_ret, scopeK_ret, bodyK_ret]
          replace e := run_back e e6
          subst e
          refine Fin.data ?_ ?_
          ·simp [convV, conv1, conv0, cvOb, allP, allR, c0, Pu, take_len_map, List.getD, List.range_succ]
          ·simp [List.range_succ]
         ·try simp at k11
          obtain ⟨f11, e6⟩ := neg_on2 e6 (by first | simpa [k7, kk7, k8, kk8, k9, kk9] using k11 | grind)
          try simp at f11
          refine EV.skip ?_
          simp only [thenK_normal, blockK_normal, scopeK_normal]
          refine EV.seq ?_
          obtain ⟨y17_8, gy17_8⟩ : ∃ z, (y15_16.fields.getD ((x6).toNat) default) = z := ⟨_, rfl⟩
          replace e6 := bnd_on e6 gy17_8
          try dsimp only at e6
          have b12 : 0 ≤ x6 ∧ x6 < (y15_16.fields.length : Int) := by omega
          have c12 : (x6).toNat < y15_16.fields.length := by omega
          have hy17_8 : y15_16.fields[(x6).toNat] = y17_8 := by rw [← gy17_8, List.getD_eq_getElem?_getD, List.getElem?_eq_getElem c12]; rfl
          have my17_8 : y17_8 ∈ y15_16.fields := by rw [← hy17_8]; exact List.getElem_mem _
          refine EV.drawG tabOK mixedOK ?_ -- region 17
          simp (maxSteps := 2000000) -implicitDefEqProofs [b2, c2, hy3_4, k3, u3, hx6, k7, kk7, k8, kk8, k9, kk9, b10, c10, hy15_16, b12, c12, hy17_8]
          refine callG_fun (w_rResolve p0 y17_8.ty) ?_ ?_
          ·first | (simp; done) | (simp [b2, c2, hy3_4, k3, u3, hx6, k7, kk7, k8, kk8, k9, kk9, b10, c10, hy15_16, b12, c12, hy17_8]; done)
          simp (maxSteps := 2000000) -implicitDefEqProofs [b2, c2, hy3_4, k3, u3, hx6, k7, kk7, k8, kk8, k9, kk9, b10, c10, hy15_16, b12, c12, hy17_8]
          refine And.intro ?_ ?_
          ·first | decide +kernel | (simp -implicitDefEqProofs; decide +kernel) | (split <;> decide +kernel)
          try simp -implicitDefEqProofs
          refine EV.seq ?_
          refine EV.seq ?_
          refine EV.regionG tabOK ?_ -- region 18
          simp (maxSteps := 2000000) -implicitDefEqProofs [b2, c2, hy3_4, k3, u3, hx6, k7, kk7, k8, kk8, k9, kk9, b10, c10, hy15_16, b12, c12, hy17_8]
          refine EV.condT ?_
          simp -implicitDefEqProofs [b2, c2, hy3_4, k3, u3, hx6, k7, kk7, k8, kk8, k9, kk9, b10, c10, hy15_16, b12, c12, hy17_8]
          refine condT_intro (fun k13 => ?_) (fun k13 => ?_)
          ·try simp at k13
           obtain ⟨f13, e6⟩ := pos_on2 e6 (by first | simpa [k7, kk7, k8, kk8, k9, kk9] using k13 | grind)
           try simp at f13
           refine EV.seq ?_
           refine EV.regionG tabOK ?_ -- region 19
           simp (maxSteps := 2000000) -implicitDefEqProofs [b2, c2, hy3_4, k3, u3, hx6, k7, kk7, k8, kk8, k9, kk9, b10, c10, hy15_16, b12, c12, hy17_8]
           refine EV.ret ?_
           simp only [thenK_ret, blockK_ret, scopeK_ret, bodyK_ret]
           replace e := run_back e e6
           subst e
           refine Fin.data ?_ ?_
           ·simp [convV, conv1, conv0, cvOb, allP, allR, c0, Pu, take_len_map, List.getD, List.range_succ]
           ·simp [List.range_succ]
          ·try simp at k13
           obtain ⟨f13, e6⟩ := neg_on2 e6 (by first | simpa [k7, kk7, k8, kk8, k9, kk9] using k13 | grind)
           try simp at f13
           refine EV.skip ?_
           simp only [thenK_normal, blockK_normal, scopeK_normal]
           refine EV.regionG tabOK ?_ -- region 20
           simp (maxSteps := 2000000) -implicitDefEqProofs [b2, c2, hy3_4, k3, u3, hx6, k7, kk7, k8, kk8, k9, kk9, b10, c10, hy15_16, b12, c12, hy17_8]
           refine EV.regionG tabOK ?_ -- region 7
           simp (maxSteps := 2000000) -implicitDefEqProofs [b2, c2, hy3_4, k3, u3, hx6, k7, kk7, k8, kk8, k9, kk9, b10, c10, hy15_16, b12, c12, hy17_8]
           have w6 : IntKind.i64.wrap ((j6 : Int) + 1) = (j6 : Int) + 1 := wrap_in _ (by omega) (by omega)
           refine ⟨⟨(j6 + 1, a6_0, ((rResolve p0 y17_8.ty).1)), by omega, e6⟩, by dsimp only; omega, ?_⟩
           try dsimp only
           refine Sub.cutF 5 (by simp) ?_ ?_ <;> simp [List.range_succ, toIdx_range, passed, b2, c2, hy3_4, k3, u3, hx6, k7, kk7, k8, kk8, k9, kk9, b10, c10, hy15_16, b12, c12, hy17_8, w6]
      ·skip
       have kk7 := k7
       try simp at kk7
       refine EV.regionG tabOK ?_ -- region 15
       simp (maxSteps := 2000000) -implicitDefEqProofs +contextual [b2, c2, hy3_4, k3, u3, hx6, k7, kk7]
       refine EV.condT ?_
       simp -implicitDefEqProofs [b2, c2, hy3_4, k3, u3, hx6, k7, kk7]
       replace e6 := pos_on e6 (by simp [b2, c2, hy3_4, k3, u3, hx6, k7, kk7])
       refine EV.seq ?_
       refine EV.regionG tabOK ?_ -- region 16
       simp (maxSteps := 2000000) -implicitDefEqProofs [b2, c2, hy3_4, k3, u3, hx6, k7, kk7]
       refine EV.ret ?_
       simp only [thenK_ret, blockK_ret, scopeK_ret, bodyK_ret]
       replace e := run_back e e6
       subst e
       refine Fin.data ?_ ?_
       ·simp [convV, conv1, conv0, cvOb, allP, allR, c0, Pu, take_len_map, List.getD, List.range_succ]
       ·simp [List.range_succ]
    ·try simp at k3
     have d3 : p2.path.drop j6 = [] := List.drop_eq_nil_of_le (by omega)
     rw [d3, rType_l6] at e6
     refine EV.exit ?_
     simp -implicitDefEqProofs
     refine ⟨⟨((a6_0, a6_1), ()), e6.symm⟩, ?_⟩
     try dsimp only
     refine Sub.cutF 5 (by simp) ?_ ?_ <;> simp [List.range_succ, toIdx_range, passed, b2, c2, hy3_4]
  ·skip
   rintro ⟨⟨v6, g6⟩, e6⟩
   simp only [thenK_normal, blockK_normal, scopeK_normal, bodyK_normal]
   replace e := run_on e e6
   try dsimp only at e
   refine EV.seq ?_
   refine EV.regionG tabOK ?_ -- region 21
   simp (maxSteps := 2000000) -implicitDefEqProofs [b2, c2, hy3_4]
   refine EV.ret ?_
   simp only [thenK_ret, blockK_ret, scopeK_ret, bodyK_ret]
   subst e
   refine Fin.pure0 ?_
   first | (simp; done) | (simp <;> grind)


def rUse (p0 : SourceD) (p1 : BodyD) (p2 : UseD) : TyD × Int :=
 (if p2.num = true then (if (p2.move = true) ∨ (¬ ((rNoSpot p2.s) = true)) then ((TyD.mk 0 ([] : List UInt8) ([])), 84) else ((TyD.mk 1 ([] : List UInt8) ([])), 0)) else (if ¬ ((rType p0 p1 p2.s).2.2 = 0) then ((TyD.mk 0 ([] : List UInt8) ([])), (rType p0 p1 p2.s).2.2) else (if ((¬ (p2.n = 0)) ∨ ((p2.move == (rCopies ((rType p0 p1 p2.s).1))) = true)) ∨ ((p2.move = true) ∧ (0 < (p2.s.path.length : Int))) then ((TyD.mk 0 ([] : List UInt8) ([])), 84) else (((rType p0 p1 p2.s).1), 0))))
set_option maxHeartbeats 40000000 in
theorem w_rUse (p0 : SourceD) (p1 : BodyD) (p2 : UseD)  : QC prog 94 [.agg [.ro 4 (p0.structs.map structC), .ro 3 (p0.enums.map enumC), .ro 4 (p0.fns.map fnC)], .agg [.s p1.name, .i .i64 p1.params, .ro 4 (p1.locals.map localC), .ro 17 (p1.blocks.map blockC)], .agg [.b p2.num, .i .i64 p2.n, .b p2.move, .i .i64 p2.s.local_, .ro 1 (p2.s.path.map (fun z => [.i .i64 z]))]] [] (.tup [.agg [.i .i64 (((rUse p0 p1 p2).1).k), .s (((rUse p0 p1 p2).1).name), .ro 3 ((((rUse p0 p1 p2).1).l).map tyC)], .i .i64 ((rUse p0 p1 p2).2)]) [] := by
 refine QC.of_body tabOK func94 rfl (by kernel_rfl) ?_
 simp only [f94]
 generalize e : rUse p0 p1 p2 = R
 unfold rUse at e
 refine EV.seq ?_
 refine EV.regionG tabOK ?_ -- region 0
 simp (maxSteps := 2000000) -implicitDefEqProofs
 refine EV.seq ?_
 refine EV.seq ?_
 refine EV.regionG tabOK ?_ -- region 1
 simp (maxSteps := 2000000) -implicitDefEqProofs
 refine EV.condT ?_
 simp -implicitDefEqProofs
 refine condT_intro (fun k1 => ?_) (fun k1 => ?_)
 ·try simp at k1
  obtain ⟨f1, e⟩ := pos_on2 e (by first | simpa using k1 | grind)
  try simp at f1
  refine EV.seq ?_
  refine EV.seq ?_
  refine EV.nrm (fun _ : Unit => (⟨[J, J, J, J, J, J, .ptr 3 0 0 0, J, J, J, J, J, J, J, J, J, J, J, J, J, .b (p2.move || (!(rNoSpot p2.s))), J, J, J, J, J, J, J, J, J, J, J, J, J, J, J, J, J, J, J, J, J, J, J, J, J, J, J, J, J, J, J, J, J, J, J, J, J, J], [.arr 0 3 [[.ro 4 (p0.structs.map structC), .ro 3 (p0.enums.map enumC), .ro 4 (p0.fns.map fnC)]], .arr 0 4 [[.s p1.name, .i .i64 p1.params, .ro 4 (p1.locals.map localC), .ro 17 (p1.blocks.map blockC)]], .arr 0 5 [[.b p2.num, .i .i64 p2.n, .b p2.move, .i .i64 p2.s.local_, .ro 1 (p2.s.path.map (fun z => [.i .i64 z]))]], .arr 0 3 [[.i .i64 0, .s ([] : List UInt8), .c (.slice none 0 0)]]]⟩ : St)) ?_ ?_
  ·skip
   cases k3 : p2.move
   ·skip
    have kk3 := k3
    try simp at kk3
    refine EV.regionG tabOK ?_ -- region 2
    simp (maxSteps := 2000000) -implicitDefEqProofs +contextual [k3, kk3]
    refine callG_fun (w_rNoSpot p2.s) ?_ ?_
    ·first | (simp; done) | (simp [k3, kk3]; done)
    simp (maxSteps := 2000000) -implicitDefEqProofs +contextual [k3, kk3]
    refine ⟨(), ?_⟩
    try dsimp only
    refine Sub.cutF 4 (by simp) ?_ ?_ <;> simp [List.range_succ, toIdx_range, passed, k3, kk3]
   ·skip
    have kk3 := k3
    try simp at kk3
    refine EV.regionG tabOK ?_ -- region 2
    simp (maxSteps := 2000000) -implicitDefEqProofs +contextual [k3, kk3]
    refine ⟨(), ?_⟩
    try dsimp only
    refine Sub.cutF 4 (by simp) ?_ ?_ <;> simp [List.range_succ, toIdx_range, passed, k3, kk3]
  ·skip
   rintro _
   simp only [thenK_normal, blockK_normal, scopeK_normal, bodyK_normal]
   refine EV.condT ?_
   simp -implicitDefEqProofs
   refine condT_intro (fun k4 => ?_) (fun k4 => ?_)
   ·try simp at k4
    obtain ⟨f4, e⟩ := pos_on2 e (by first | simpa using k4 | grind)
    try simp at f4
    refine EV.seq ?_
    refine EV.regionG tabOK ?_ -- region 3
    simp (maxSteps := 2000000) -implicitDefEqProofs
    refine EV.ret ?_
    simp only [thenK_ret, blockK_ret, scopeK_ret, bodyK_ret]
    subst e
    refine Fin.data ?_ ?_
    ·simp [convV, conv1, conv0, cvOb, allP, allR, c0, Pu, take_len_map, List.getD, List.range_succ]
    ·simp [List.range_succ]
   ·try simp at k4
    obtain ⟨f4, e⟩ := neg_on2 e (by first | simpa using k4 | grind)
    try simp at f4
    refine EV.skip ?_
    simp only [thenK_normal, blockK_normal, scopeK_normal]
    refine EV.seq ?_
    refine EV.regionG tabOK ?_ -- region 4
    simp (maxSteps := 2000000) -implicitDefEqProofs
    refine EV.ret ?_
    simp only [thenK_ret, blockK_ret, scopeK_ret, bodyK_ret]
    subst e
    refine Fin.data ?_ ?_
    ·simp [convV, conv1, conv0, cvOb, allP, allR, c0, Pu, take_len_map, List.getD, List.range_succ]
    ·simp [List.range_succ]
 ·try simp at k1
  obtain ⟨f1, e⟩ := neg_on2 e (by first | simpa using k1 | grind)
  try simp at f1
  refine EV.skip ?_
  simp only [thenK_normal, blockK_normal, scopeK_normal]
  refine EV.seq ?_
  refine EV.regionG tabOK ?_ -- region 5
  simp (maxSteps := 2000000) -implicitDefEqProofs
  refine callG_fun (w_rType p0 p1 p2.s) ?_ ?_
  ·simp
  simp (maxSteps := 2000000) -implicitDefEqProofs
  refine EV.seq ?_
  refine EV.seq ?_
  refine EV.regionG tabOK ?_ -- region 6
  simp (maxSteps := 2000000) -implicitDefEqProofs
  refine EV.condT ?_
  simp -implicitDefEqProofs
  refine condT_intro (fun k5 => ?_) (fun k5 => ?_)
  ·try simp at k5
   obtain ⟨f5, e⟩ := pos_on2 e (by first | simpa using k5 | grind)
   try simp at f5
   refine EV.seq ?_
   refine EV.regionG tabOK ?_ -- region 7
   simp (maxSteps := 2000000) -implicitDefEqProofs
   refine EV.ret ?_
   simp only [thenK_ret, blockK_ret, scopeK_ret, bodyK_ret]
   subst e
   refine Fin.data ?_ ?_
   ·simp [convV, conv1, conv0, cvOb, allP, allR, c0, Pu, take_len_map, List.getD, List.range_succ]
   ·simp [List.range_succ]
  ·try simp at k5
   obtain ⟨f5, e⟩ := neg_on2 e (by first | simpa using k5 | grind)
   try simp at f5
   refine EV.skip ?_
   simp only [thenK_normal, blockK_normal, scopeK_normal]
   refine EV.seq ?_
   refine EV.seq ?_
   refine EV.nrm (fun _ : Unit => (⟨[J, J, J, J, J, J, .ptr 3 0 0 0, J, .ptr 4 0 0 0, J, J, J, J, J, J, J, J, J, J, J, J, J, J, J, J, J, J, J, J, J, J, J, J, J, J, J, J, J, J, J, J, J, J, J, J, J, J, J, J, J, J, J, J, J, J, J, .b (((!(decide (p2.n = 0))) || (p2.move == (rCopies ((rType p0 p1 p2.s).1)))) || (p2.move && (decide (0 < (p2.s.path.length : Int))))), J, J], [.arr 0 3 [[.ro 4 (p0.structs.map structC), .ro 3 (p0.enums.map enumC), .ro 4 (p0.fns.map fnC)]], .arr 0 4 [[.s p1.name, .i .i64 p1.params, .ro 4 (p1.locals.map localC), .ro 17 (p1.blocks.map blockC)]], .arr 0 5 [[.b p2.num, .i .i64 p2.n, .b p2.move, .i .i64 p2.s.local_, .ro 1 (p2.s.path.map (fun z => [.i .i64 z]))]], .arr 0 3 [[.i .i64 0, .s ([] : List UInt8), .c (.slice none 0 0)]], .arr 0 3 [[.i .i64 (((rType p0 p1 p2.s).1).k), .s (((rType p0 p1 p2.s).1).name), .ro 3 ((((rType p0 p1 p2.s).1).l).map tyC)]]]⟩ : St)) ?_ ?_
   ·skip
    by_cases k7 : p2.n = 0
    ·skip
     have kk7 := k7
     try simp at kk7
     cases k8 : p2.move
     ·skip
      have kk8 := k8
      try simp at kk8
      cases k9 : (rCopies ((rType p0 p1 p2.s).1))
      ·skip
       have kk9 := k9
       try simp at kk9
       refine EV.drawG tabOK mixedOK ?_ -- region 8
       simp (maxSteps := 2000000) -implicitDefEqProofs +contextual [k7, kk7, k8, kk8, k9, kk9]
       refine callG_fun (w_rCopies ((rType p0 p1 p2.s).1)) ?_ ?_
       ·first | (simp; done) | (simp [k7, kk7, k8, kk8, k9, kk9]; done)
       simp (maxSteps := 2000000) -implicitDefEqProofs +contextual [k7, kk7, k8, kk8, k9, kk9]
       refine And.intro ?_ ?_
       ·first | decide +kernel | (simp -implicitDefEqProofs; decide +kernel) | (split <;> decide +kernel)
       try simp -implicitDefEqProofs
       refine ⟨(), ?_⟩
       try dsimp only
       refine Sub.cutF 5 (by simp) ?_ ?_ <;> simp [List.range_succ, toIdx_range, passed, k7, kk7, k8, kk8, k9, kk9]
      ·skip
       have kk9 := k9
       try simp at kk9
       refine EV.drawG tabOK mixedOK ?_ -- region 8
       simp (maxSteps := 2000000) -implicitDefEqProofs +contextual [k7, kk7, k8, kk8, k9, kk9]
       refine callG_fun (w_rCopies ((rType p0 p1 p2.s).1)) ?_ ?_
       ·first | (simp; done) | (simp [k7, kk7, k8, kk8, k9, kk9]; done)
       simp (maxSteps := 2000000) -implicitDefEqProofs +contextual [k7, kk7, k8, kk8, k9, kk9]
       refine And.intro ?_ ?_
       ·first | decide +kernel | (simp -implicitDefEqProofs; decide +kernel) | (split <;> decide +kernel)
       try simp -implicitDefEqProofs
       refine ⟨(), ?_⟩
       try dsimp only
       refine Sub.cutF 5 (by simp) ?_ ?_ <;> simp [List.range_succ, toIdx_range, passed, k7, kk7, k8, kk8, k9, kk9]
     ·skip
      have kk8 := k8
      try simp at kk8
      cases k10 : (rCopies ((rType p0 p1 p2.s).1))
      ·skip
       have kk10 := k10
       try simp at kk10
       refine EV.drawG tabOK mixedOK ?_ -- region 8
       simp (maxSteps := 2000000) -implicitDefEqProofs +contextual [k7, kk7, k8, kk8, k10, kk10]
       refine callG_fun (w_rCopies ((rType p0 p1 p2.s).1)) ?_ ?_
       ·first | (simp; done) | (simp [k7, kk7, k8, kk8, k10, kk10]; done)
       simp (maxSteps := 2000000) -implicitDefEqProofs +contextual [k7, kk7, k8, kk8, k10, kk10]
       refine And.intro ?_ ?_
       ·first | decide +kernel | (simp -implicitDefEqProofs; decide +kernel) | (split <;> decide +kernel)
       try simp -implicitDefEqProofs
       refine ⟨(), ?_⟩
       try dsimp only
       refine Sub.cutF 5 (by simp) ?_ ?_ <;> simp [List.range_succ, toIdx_range, passed, k7, kk7, k8, kk8, k10, kk10]
      ·skip
       have kk10 := k10
       try simp at kk10
       refine EV.drawG tabOK mixedOK ?_ -- region 8
       simp (maxSteps := 2000000) -implicitDefEqProofs +contextual [k7, kk7, k8, kk8, k10, kk10]
       refine callG_fun (w_rCopies ((rType p0 p1 p2.s).1)) ?_ ?_
       ·first | (simp; done) | (simp [k7, kk7, k8, kk8, k10, kk10]; done)
       simp (maxSteps := 2000000) -implicitDefEqProofs +contextual [k7, kk7, k8, kk8, k10, kk10]
       refine And.intro ?_ ?_
       ·first | decide +kernel | (simp -implicitDefEqProofs; decide +kernel) | (split <;> decide +kernel)
       try simp -implicitDefEqProofs
       refine ⟨(), ?_⟩
       try dsimp only
       refine Sub.cutF 5 (by simp) ?_ ?_ <;> simp [List.range_succ, toIdx_range, passed, k7, kk7, k8, kk8, k10, kk10]
    ·skip
     have kk7 := k7
     try simp at kk7
     refine EV.drawG tabOK mixedOK ?_ -- region 8
     simp (maxSteps := 2000000) -implicitDefEqProofs +contextual [k7, kk7]
     refine And.intro ?_ ?_
     ·first | decide +kernel | (simp -implicitDefEqProofs; decide +kernel) | (split <;> decide +kernel)
     try simp -implicitDefEqProofs
     refine ⟨(), ?_⟩
     try dsimp only
     refine Sub.cutF 5 (by simp) ?_ ?_ <;> simp [List.range_succ, toIdx_range, passed, k7, kk7]
   ·skip
    rintro _
    simp only [thenK_normal, blockK_normal, scopeK_normal, bodyK_normal]
    refine EV.condT ?_
    simp -implicitDefEqProofs
    refine condT_intro (fun k11 => ?_) (fun k11 => ?_)
    ·try simp at k11
     obtain ⟨f11, e⟩ := pos_on2 e (by first | simpa using k11 | grind)
     try simp at f11
     refine EV.seq ?_
     refine EV.regionG tabOK ?_ -- region 9
     simp (maxSteps := 2000000) -implicitDefEqProofs
     refine EV.ret ?_
     simp only [thenK_ret, blockK_ret, scopeK_ret, bodyK_ret]
     subst e
     refine Fin.data ?_ ?_
     ·simp [convV, conv1, conv0, cvOb, allP, allR, c0, Pu, take_len_map, List.getD, List.range_succ]
     ·simp [List.range_succ]
    ·try simp at k11
     obtain ⟨f11, e⟩ := neg_on2 e (by first | simpa using k11 | grind)
     try simp at f11
     refine EV.skip ?_
     simp only [thenK_normal, blockK_normal, scopeK_normal]
     refine EV.seq ?_
     refine EV.regionG tabOK ?_ -- region 10
     simp (maxSteps := 2000000) -implicitDefEqProofs
     refine EV.ret ?_
     simp only [thenK_ret, blockK_ret, scopeK_ret, bodyK_ret]
     subst e
     refine Fin.pure0 ?_
     first | (simp; done) | (simp <;> grind)


def rNone (p0 : Int) : TyD × Int :=
 ((TyD.mk 0 ([] : List UInt8) ([])), p0)
set_option maxHeartbeats 40000000 in
theorem w_rNone (p0 : Int)  : QC prog 92 [.i .i64 p0] [] (.tup [.agg [.i .i64 (((rNone p0).1).k), .s (((rNone p0).1).name), .ro 3 ((((rNone p0).1).l).map tyC)], .i .i64 ((rNone p0).2)]) [] := by
 refine QC.of_body tabOK func92 rfl (by kernel_rfl) ?_
 simp only [f92]
 generalize e : rNone p0 = R
 unfold rNone at e
 refine EV.seq ?_
 refine EV.regionG tabOK ?_ -- region 0
 simp (maxSteps := 2000000) -implicitDefEqProofs
 refine EV.seq ?_
 refine EV.regionG tabOK ?_ -- region 1
 simp (maxSteps := 2000000) -implicitDefEqProofs
 refine EV.ret ?_
 simp only [thenK_ret, blockK_ret, scopeK_ret, bodyK_ret]
 subst e
 refine Fin.data ?_ ?_
 ·simp [convV, conv1, conv0, cvOb, allP, allR, c0, Pu, take_len_map, List.getD, List.range_succ]
 ·simp [List.range_succ]


def rNoUse (p0 : UseD) : Bool :=
 ((((!p0.num) && (decide (p0.n = 0))) && (!p0.move)) && (rNoSpot p0.s))
set_option maxHeartbeats 40000000 in
theorem w_rNoUse (p0 : UseD)  : QC prog 152 [.agg [.b p0.num, .i .i64 p0.n, .b p0.move, .i .i64 p0.s.local_, .ro 1 (p0.s.path.map (fun z => [.i .i64 z]))]] [] (.b (rNoUse p0)) [] := by
 refine QC.of_body tabOK func152 rfl (by kernel_rfl) ?_
 simp only [f152]
 generalize e : rNoUse p0 = R
 unfold rNoUse at e
 refine EV.seq ?_
 refine EV.regionG tabOK ?_ -- region 0
 simp (maxSteps := 2000000) -implicitDefEqProofs
 refine EV.seq ?_
 refine EV.nrm (fun _ : Unit => (⟨[J, J, .b ((((!p0.num) && (decide (p0.n = 0))) && (!p0.move)) && (rNoSpot p0.s)), J, J, J, J, J, J, J, J, J, J, J, J, J, J, J, J, J, J], []⟩ : St)) ?_ ?_
 ·skip
  cases k2 : p0.num
  ·skip
   have kk2 := k2
   try simp at kk2
   by_cases k3 : p0.n = 0
   ·skip
    have kk3 := k3
    try simp at kk3
    cases k4 : p0.move
    ·skip
     have kk4 := k4
     try simp at kk4
     refine EV.regionG tabOK ?_ -- region 1
     simp (maxSteps := 2000000) -implicitDefEqProofs +contextual [k2, kk2, k3, kk3, k4, kk4]
     refine callG_fun (w_rNoSpot p0.s) ?_ ?_
     ·first | (simp; done) | (simp [k2, kk2, k3, kk3, k4, kk4]; done)
     simp (maxSteps := 2000000) -implicitDefEqProofs +contextual [k2, kk2, k3, kk3, k4, kk4]
     refine ⟨(), ?_⟩
     try dsimp only
     refine Sub.cutF 0 (by simp) ?_ ?_ <;> simp [List.range_succ, toIdx_range, passed, k2, kk2, k3, kk3, k4, kk4]
    ·skip
     have kk4 := k4
     try simp at kk4
     refine EV.regionG tabOK ?_ -- region 1
     simp (maxSteps := 2000000) -implicitDefEqProofs +contextual [k2, kk2, k3, kk3, k4, kk4]
     refine ⟨(), ?_⟩
     try dsimp only
     refine Sub.cutF 0 (by simp) ?_ ?_ <;> simp [List.range_succ, toIdx_range, passed, k2, kk2, k3, kk3, k4, kk4]
   ·skip
    have kk3 := k3
    try simp at kk3
    refine EV.regionG tabOK ?_ -- region 1
    simp (maxSteps := 2000000) -implicitDefEqProofs +contextual [k2, kk2, k3, kk3]
    refine ⟨(), ?_⟩
    try dsimp only
    refine Sub.cutF 0 (by simp) ?_ ?_ <;> simp [List.range_succ, toIdx_range, passed, k2, kk2, k3, kk3]
  ·skip
   have kk2 := k2
   try simp at kk2
   refine EV.regionG tabOK ?_ -- region 1
   simp (maxSteps := 2000000) -implicitDefEqProofs +contextual [k2, kk2]
   refine ⟨(), ?_⟩
   try dsimp only
   refine Sub.cutF 0 (by simp) ?_ ?_ <;> simp [List.range_succ, toIdx_range, passed, k2, kk2]
 ·skip
  rintro _
  simp only [thenK_normal, blockK_normal, scopeK_normal, bodyK_normal]
  refine EV.ret ?_
  simp only [thenK_ret, blockK_ret, scopeK_ret, bodyK_ret]
  subst e
  refine Fin.pure0 ?_
  first | (simp; done) | (simp <;> grind)


def rNoValue (p0 : ValueD) : Bool :=
 (((((decide (p0.k = 0)) && (decide ((p0.uses.length : Int) = 0))) && (rNoSpot p0.s)) && (decide (p0.which = 0))) && (decide (p0.tag = 0)))
set_option maxHeartbeats 40000000 in
theorem w_rNoValue (p0 : ValueD)  : QC prog 151 [.agg [.i .i64 p0.k, .ro 5 (p0.uses.map useC), .i .i64 p0.s.local_, .ro 1 (p0.s.path.map (fun z => [.i .i64 z])), .i .i64 p0.which, .i .i64 p0.tag]] [] (.b (rNoValue p0)) [] := by
 refine QC.of_body tabOK func151 rfl (by kernel_rfl) ?_
 simp only [f151]
 generalize e : rNoValue p0 = R
 unfold rNoValue at e
 refine EV.seq ?_
 refine EV.regionG tabOK ?_ -- region 0
 simp (maxSteps := 2000000) -implicitDefEqProofs
 refine EV.seq ?_
 refine EV.nrm (fun _ : Unit => (⟨[J, J, .b (((((decide (p0.k = 0)) && (decide ((p0.uses.length : Int) = 0))) && (rNoSpot p0.s)) && (decide (p0.which = 0))) && (decide (p0.tag = 0))), J, J, J, J, J, J, J, J, J, J, J, J, J, J, J, J, J, J, J, J, J, J, J, J], []⟩ : St)) ?_ ?_
 ·skip
  by_cases k2 : p0.k = 0
  ·skip
   have kk2 := k2
   try simp at kk2
   by_cases k3 : (p0.uses.length : Int) = 0
   ·skip
    have kk3 := k3
    try simp at kk3
    refine EV.regionG tabOK ?_ -- region 1
    simp (maxSteps := 2000000) -implicitDefEqProofs +contextual [k2, kk2, k3, kk3]
    refine callG_fun (w_rNoSpot p0.s) ?_ ?_
    ·first | (simp; done) | (simp [k2, kk2, k3, kk3]; done)
    simp (maxSteps := 2000000) -implicitDefEqProofs +contextual [k2, kk2, k3, kk3]
    refine ⟨(), ?_⟩
    try dsimp only
    refine Sub.cutF 0 (by simp) ?_ ?_ <;> simp [List.range_succ, toIdx_range, passed, k2, kk2, k3, kk3]
   ·skip
    have kk3 := k3
    try simp at kk3
    refine EV.regionG tabOK ?_ -- region 1
    simp (maxSteps := 2000000) -implicitDefEqProofs +contextual [k2, kk2, k3, kk3]
    refine ⟨(), ?_⟩
    try dsimp only
    refine Sub.cutF 0 (by simp) ?_ ?_ <;> simp [List.range_succ, toIdx_range, passed, k2, kk2, k3, kk3]
  ·skip
   have kk2 := k2
   try simp at kk2
   refine EV.regionG tabOK ?_ -- region 1
   simp (maxSteps := 2000000) -implicitDefEqProofs +contextual [k2, kk2]
   refine ⟨(), ?_⟩
   try dsimp only
   refine Sub.cutF 0 (by simp) ?_ ?_ <;> simp [List.range_succ, toIdx_range, passed, k2, kk2]
 ·skip
  rintro _
  simp only [thenK_normal, blockK_normal, scopeK_normal, bodyK_normal]
  refine EV.ret ?_
  simp only [thenK_ret, blockK_ret, scopeK_ret, bodyK_ret]
  subst e
  refine Fin.pure0 ?_
  first | (simp; done) | (simp <;> grind)


def rBare (p0 : BodyD) (p1 : SpotD) : Bool :=
 (((decide ((p1.path.length : Int) = 0)) && (decide (0 ≤ p1.local_))) && (decide (p1.local_ < (IntKind.i64.wrap ((p0.locals.length : Int) - 1)))))
set_option maxHeartbeats 40000000 in
theorem w_rBare (p0 : BodyD) (p1 : SpotD)  : QC prog 150 [.agg [.s p0.name, .i .i64 p0.params, .ro 4 (p0.locals.map localC), .ro 17 (p0.blocks.map blockC)], .agg [.i .i64 p1.local_, .ro 1 (p1.path.map (fun z => [.i .i64 z]))]] [] (.b (rBare p0 p1)) [] := by
 refine QC.of_body tabOK func150 rfl (by kernel_rfl) ?_
 simp only [f150]
 generalize e : rBare p0 p1 = R
 unfold rBare at e
 refine EV.seq ?_
 refine EV.regionG tabOK ?_ -- region 0
 simp (maxSteps := 2000000) -implicitDefEqProofs
 refine EV.seq ?_
 refine EV.regionG tabOK ?_ -- region 1
 simp (maxSteps := 2000000) -implicitDefEqProofs +contextual
 refine EV.ret ?_
 simp only [thenK_ret, blockK_ret, scopeK_ret, bodyK_ret]
 subst e
 refine Fin.pure0 ?_
 first | (simp; done) | (simp <;> grind)


def rNum (p0 : SourceD) (p1 : BodyD) (p2 : UseD) : Bool :=
 ((decide ((rUse p0 p1 p2).2 = 0)) && (decide (((rUse p0 p1 p2).1).k = 1)))
set_option maxHeartbeats 40000000 in
theorem w_rNum (p0 : SourceD) (p1 : BodyD) (p2 : UseD)  : QC prog 154 [.agg [.ro 4 (p0.structs.map structC), .ro 3 (p0.enums.map enumC), .ro 4 (p0.fns.map fnC)], .agg [.s p1.name, .i .i64 p1.params, .ro 4 (p1.locals.map localC), .ro 17 (p1.blocks.map blockC)], .agg [.b p2.num, .i .i64 p2.n, .b p2.move, .i .i64 p2.s.local_, .ro 1 (p2.s.path.map (fun z => [.i .i64 z]))]] [] (.b (rNum p0 p1 p2)) [] := by
 refine QC.of_body tabOK func154 rfl (by kernel_rfl) ?_
 simp only [f154]
 generalize e : rNum p0 p1 p2 = R
 unfold rNum at e
 refine EV.seq ?_
 refine EV.regionG tabOK ?_ -- region 0
 simp (maxSteps := 2000000) -implicitDefEqProofs
 refine EV.seq ?_
 refine EV.regionG tabOK ?_ -- region 1
 simp (maxSteps := 2000000) -implicitDefEqProofs
 refine callG_fun (w_rUse p0 p1 p2) ?_ ?_
 ·simp
 simp (maxSteps := 2000000) -implicitDefEqProofs
 refine EV.seq ?_
 refine EV.regionG tabOK ?_ -- region 2
 simp (maxSteps := 2000000) -implicitDefEqProofs +contextual
 refine EV.ret ?_
 simp only [thenK_ret, blockK_ret, scopeK_ret, bodyK_ret]
 subst e
 refine Fin.pure0 ?_
 first | (simp; done) | (simp <;> grind)


def rEnum (p0 : SourceD) (p1 : BodyD) (p2 : SpotD) : Int :=
 (if ((¬ ((rType p0 p1 p2).2.2 = 0)) ∨ (0 < (p2.path.length : Int))) ∨ (¬ (((rType p0 p1 p2).1).k = 3)) then (-1) else (rEnumOf p0 (((rType p0 p1 p2).1).name)))
set_option maxHeartbeats 40000000 in
theorem w_rEnum (p0 : SourceD) (p1 : BodyD) (p2 : SpotD)  : QC prog 155 [.agg [.ro 4 (p0.structs.map structC), .ro 3 (p0.enums.map enumC), .ro 4 (p0.fns.map fnC)], .agg [.s p1.name, .i .i64 p1.params, .ro 4 (p1.locals.map localC), .ro 17 (p1.blocks.map blockC)], .agg [.i .i64 p2.local_, .ro 1 (p2.path.map (fun z => [.i .i64 z]))]] [] (.i .i64 (rEnum p0 p1 p2)) [] := by
 refine QC.of_body tabOK func155 rfl (by kernel_rfl) ?_
 simp only [f155]
 generalize e : rEnum p0 p1 p2 = R
 unfold rEnum at e
 refine EV.seq ?_
 refine EV.regionG tabOK ?_ -- region 0
 simp (maxSteps := 2000000) -implicitDefEqProofs
 refine EV.seq ?_
 refine EV.regionG tabOK ?_ -- region 1
 simp (maxSteps := 2000000) -implicitDefEqProofs
 refine callG_fun (w_rType p0 p1 p2) ?_ ?_
 ·simp
 simp (maxSteps := 2000000) -implicitDefEqProofs
 refine EV.seq ?_
 refine EV.seq ?_
 refine EV.regionG tabOK ?_ -- region 2
 simp (maxSteps := 2000000) -implicitDefEqProofs +contextual
 refine EV.condT ?_
 simp -implicitDefEqProofs
 refine condT_intro (fun k1 => ?_) (fun k1 => ?_)
 ·try simp at k1
  obtain ⟨f1, e⟩ := pos_on2 e (by first | simpa using k1 | grind)
  try simp at f1
  refine EV.seq ?_
  refine EV.regionG tabOK ?_ -- region 3
  simp (maxSteps := 2000000) -implicitDefEqProofs
  refine EV.ret ?_
  simp only [thenK_ret, blockK_ret, scopeK_ret, bodyK_ret]
  subst e
  refine Fin.pure0 ?_
  first | (simp; done) | (simp <;> grind)
 ·try simp at k1
  obtain ⟨f1, e⟩ := neg_on2 e (by first | simpa using k1 | grind)
  try simp at f1
  refine EV.skip ?_
  simp only [thenK_normal, blockK_normal, scopeK_normal]
  refine EV.seq ?_
  have := rEnumOf_lt p0 (((rType p0 p1 p2).1).name)
  refine EV.regionG tabOK ?_ -- region 4
  simp (maxSteps := 2000000) -implicitDefEqProofs
  refine callG_fun (w_rEnumOf p0 (((rType p0 p1 p2).1).name)) ?_ ?_
  ·simp
  simp (maxSteps := 2000000) -implicitDefEqProofs
  refine EV.ret ?_
  simp only [thenK_ret, blockK_ret, scopeK_ret, bodyK_ret]
  subst e
  refine Fin.pure0 ?_
  first | (simp; done) | (simp <;> grind)

theorem rEnum_lt (p0 : SourceD) (p1 : BodyD) (p2 : SpotD) : rEnum p0 p1 p2 < p0.enums.length := by
 unfold rEnum
 split
 ·omega
 ·exact rEnumOf_lt _ _
structure SrcOK (s : SourceD) : Prop where
 sf : ∀ x ∈ s.structs, x.fields.length ≤ 2199023255551
 fp : ∀ x ∈ s.fns, x.params.length ≤ 2199023255551

def rTys_l3  : List FieldD → (List TyD) → (List TyD)
 | [], a3_0 => a3_0
 | x3 :: xs3, a3_0 => rTys_l3 xs3 (a3_0 ++ ([x3.ty] : List TyD))
def rTys (p0 : List FieldD) : (List TyD) :=
 (bnd (rTys_l3 p0 ([] : List TyD)) fun (v3 : (List TyD)) => v3)
set_option maxHeartbeats 40000000 in
theorem w_rTys (p0 : List FieldD) (hl : p0.length ≤ 2199023255551) : QC prog 95 [.ro 4 (p0.map fieldC)] [] (.ro 3 ((rTys p0).map tyC)) [] := by
 refine QC.of_body tabOK func95 rfl (by kernel_rfl) ?_
 simp only [f95]
 generalize e : rTys p0 = R
 unfold rTys at e
 refine EV.seq ?_
 refine EV.regionG tabOK ?_ -- region 0
 simp (maxSteps := 2000000) -implicitDefEqProofs
 refine EV.seq ?_
 refine EV.regionG tabOK ?_ -- region 1
 simp (maxSteps := 2000000) -implicitDefEqProofs
 refine EV.seq ?_
 refine EV.seq ?_
 refine EV.regionG tabOK ?_ -- region 2
 simp (maxSteps := 2000000) -implicitDefEqProofs
 obtain ⟨z3, e3, e⟩ := bnd_split e
 refine EV.nrm (fun v : { v : ((List TyD)) × (Nat) // z3 = v.1 } => (fun (v3 : (List TyD)) (g3 : Nat) => (⟨[J, J, J, .sl 0 g3 0 v3.length, J, J, J, J, J, J, J, J, J, J, J, J, J, J, J, J], [.arr g3 3 (v3.map tyC)]⟩ : St)) v.1.1 v.1.2) ?_ ?_
 ·skip
  refine EV.block ?_
  refine EV.loopB (fun x : { x : Nat × (List TyD) × Nat // x.1 ≤ p0.length ∧ rTys_l3 (p0.drop x.1) x.2.1 = z3 ∧ (fun (j3 : Nat) (a3_0 : List TyD) (a3_g0 : Nat) => a3_0.length = j3) x.1 x.2.1 x.2.2 } => (fun (j3 : Nat) (a3_0 : List TyD) (a3_g0 : Nat) => (⟨[.ro 4 (p0.map fieldC), J, J, .sl 0 a3_g0 0 a3_0.length, .i .i64 (j3 : Int), J, J, J, J, J, J, J, J, J, J, J, J, J, J, J], [.arr a3_g0 3 (a3_0.map tyC)]⟩ : St)) x.1.1 x.1.2.1 x.1.2.2) (fun x => p0.length - x.1.1) ⟨(0, ([] : List TyD), 0), Nat.zero_le _, e3, by ((try dsimp only); first | omega | assumption | (simp; done) | (simp; assumption) | (simp; omega) | (simp at *; omega) | simp_all)⟩ ?_ ?_
  ·skip
   refine Sub.trans (Sub.newNilE 0 3 3 (by decide) (by simp)) ?_
   try dsimp only
   try dsimp only
   refine Sub.cutF 1 (by simp) ?_ ?_ <;> simp [List.range_succ, toIdx_range, passed]
  ·skip
   rintro ⟨⟨j3, a3_0, a3_g0⟩, hi3, e3, q3⟩
   simp only at hi3 e3 ⊢
   try dsimp only at q3
   refine EV.seq ?_
   refine EV.seq ?_
   refine EV.regionG tabOK ?_ -- region 3
   simp (maxSteps := 2000000) -implicitDefEqProofs
   refine EV.room 0 (by rfl) (fun mj3 => ?_)
   simp at mj3
   refine EV.condT ?_
   simp -implicitDefEqProofs
   refine condT_intro (fun k1 => ?_) (fun k1 => ?_)
   ·try simp at k1
    have u1 : j3 < p0.length := by omega
    obtain ⟨x3, hx3⟩ : ∃ z, p0[j3] = z := ⟨_, rfl⟩
    have mx3 : x3 ∈ p0 := by rw [← hx3]; exact List.getElem_mem _
    rw [List.drop_eq_getElem_cons u1, hx3, rTys_l3] at e3
    refine EV.skip ?_
    simp only [thenK_normal, blockK_normal, scopeK_normal]
    refine EV.seq ?_
    refine EV.block ?_
    have r2 : roomFor (a3_0.length + 1) 48 := And.intro (by omega) (by omega)
    refine EV.regionG tabOK ?_ -- region 5
    simp (maxSteps := 2000000) -implicitDefEqProofs [k1, u1, hx3, r2]
    refine EV.regionG tabOK ?_ -- region 4
    simp (maxSteps := 2000000) -implicitDefEqProofs [k1, u1, hx3, r2]
    have w3 : IntKind.i64.wrap ((j3 : Int) + 1) = (j3 : Int) + 1 := wrap_in _ (by omega) (by omega)
    refine ⟨⟨(j3 + 1, (a3_0 ++ ([x3.ty] : List TyD)), (a3_g0 + 1)), by omega, e3, by ((try dsimp only); first | omega | assumption | (simp; done) | (simp; assumption) | (simp; omega) | (simp at *; omega) | simp_all)⟩, by dsimp only; omega, ?_⟩
    try dsimp only
    refine Sub.cutF 1 (by simp) ?_ ?_ <;> simp [List.range_succ, toIdx_range, passed, k1, u1, hx3, r2, w3]
   ·try simp at k1
    have d1 : p0.drop j3 = [] := List.drop_eq_nil_of_le (by omega)
    rw [d1, rTys_l3] at e3
    refine EV.exit ?_
    simp -implicitDefEqProofs
    refine ⟨⟨(a3_0, a3_g0), e3.symm⟩, ?_⟩
    try dsimp only
    refine Sub.cutF 1 (by simp) ?_ ?_ <;> simp [List.range_succ, toIdx_range, passed]
 ·skip
  rintro ⟨⟨v3, g3⟩, e3⟩
  simp only [thenK_normal, blockK_normal, scopeK_normal, bodyK_normal]
  replace e := bnd_on e e3
  try dsimp only at e
  refine EV.seq ?_
  refine EV.regionG tabOK ?_ -- region 6
  simp (maxSteps := 2000000) -implicitDefEqProofs
  refine EV.ret ?_
  simp only [thenK_ret, blockK_ret, scopeK_ret, bodyK_ret]
  subst e
  refine Fin.data ?_ ?_
  ·simp [convV, conv1, conv0, cvOb, allP, allR, c0, Pu, take_len_map, List.getD, List.range_succ]
  ·simp [List.range_succ]

def rUses_l4 (p0 : SourceD) (p1 : BodyD) (p3 : List TyD) : List UseD → Nat → Ctl (Int) (Unit)
 | [], _ => .go ()
 | x4 :: xs4, j4 => (if ¬ ((rUse p0 p1 x4).2 = 0) then .ret ((rUse p0 p1 x4).2) else (bnd (p3.getD j4 default) fun (y9_3 : TyD) => (if (¬ ((rResolve p0 y9_3).2 = 0)) ∨ (¬ ((rSameTy ((rUse p0 p1 x4).1) ((rResolve p0 y9_3).1)) = true)) then .ret 80 else rUses_l4 p0 p1 p3 xs4 (j4 + 1))))
def rUses (p0 : SourceD) (p1 : BodyD) (p2 : List UseD) (p3 : List TyD) : Int :=
 (if ¬ ((p2.length : Int) = (p3.length : Int)) then 81 else (Ctl.run (rUses_l4 p0 p1 p3 p2 0) fun (v4 : Unit) => 0))
set_option maxHeartbeats 40000000 in
theorem w_rUses (p0 : SourceD) (p1 : BodyD) (p2 : List UseD) (p3 : List TyD)  : QC prog 96 [.agg [.ro 4 (p0.structs.map structC), .ro 3 (p0.enums.map enumC), .ro 4 (p0.fns.map fnC)], .agg [.s p1.name, .i .i64 p1.params, .ro 4 (p1.locals.map localC), .ro 17 (p1.blocks.map blockC)], .ro 5 (p2.map useC), .ro 3 (p3.map tyC)] [] (.i .i64 (rUses p0 p1 p2 p3)) [] := by
 refine QC.of_body tabOK func96 rfl (by kernel_rfl) ?_
 simp only [f96]
 generalize e : rUses p0 p1 p2 p3 = R
 unfold rUses at e
 refine EV.seq ?_
 refine EV.regionG tabOK ?_ -- region 0
 simp (maxSteps := 2000000) -implicitDefEqProofs
 refine EV.seq ?_
 refine EV.seq ?_
 refine EV.regionG tabOK ?_ -- region 1
 simp (maxSteps := 2000000) -implicitDefEqProofs
 refine EV.condT ?_
 simp -implicitDefEqProofs
 refine condT_intro (fun k1 => ?_) (fun k1 => ?_)
 ·try simp at k1
  obtain ⟨f1, e⟩ := pos_on2 e (by first | simpa using k1 | grind)
  try simp at f1
  refine EV.seq ?_
  refine EV.regionG tabOK ?_ -- region 2
  simp (maxSteps := 2000000) -implicitDefEqProofs
  refine EV.ret ?_
  simp only [thenK_ret, blockK_ret, scopeK_ret, bodyK_ret]
  subst e
  refine Fin.pure0 ?_
  first | (simp; done) | (simp <;> grind)
 ·try simp at k1
  obtain ⟨f1, e⟩ := neg_on2 e (by first | simpa using k1 | grind)
  try simp at f1
  refine EV.skip ?_
  simp only [thenK_normal, blockK_normal, scopeK_normal]
  refine EV.seq ?_
  refine EV.seq ?_
  refine EV.regionG tabOK ?_ -- region 3
  simp (maxSteps := 2000000) -implicitDefEqProofs
  obtain ⟨z4, e4, e⟩ := run_split e
  refine EV.nrm (fun v : { v : (Unit) × (Unit) // z4 = .go v.1 } => (fun (v4 : Unit) (g4 : Unit) => (⟨[J, J, J, J, J, J, J, J, J, J, J, J, J, J, J, J, J, J, J, J, J, J, J, J, J, J, J, J, J, J, J, J, J, J, J, J, J, J, J, J, J, J, J, J, J, J, J, J, J, J, J, J, J, J, J, J, J], []⟩ : St)) v.1.1 v.1.2) ?_ ?_
  ·skip
   refine EV.block ?_
   refine EV.loopB (fun x : { x : Nat // x ≤ p2.length ∧ rUses_l4 p0 p1 p3 (p2.drop x) x = z4 } => (fun (j4 : Nat) => (⟨[J, J, .ro 5 (p2.map useC), .ro 3 (p3.map tyC), .ptr 0 0 0 0, .ptr 1 0 0 0, J, J, J, .i .i64 (j4 : Int), J, J, J, J, J, J, J, J, J, J, J, J, J, J, J, J, J, J, J, J, J, J, J, J, J, J, J, J, J, J, J, J, J, J, J, J, J, J, J, J, J, J, J, J, J, J, J], [.arr 0 3 [[.ro 4 (p0.structs.map structC), .ro 3 (p0.enums.map enumC), .ro 4 (p0.fns.map fnC)]], .arr 0 4 [[.s p1.name, .i .i64 p1.params, .ro 4 (p1.locals.map localC), .ro 17 (p1.blocks.map blockC)]]]⟩ : St)) x.1) (fun x => p2.length - x.1) ⟨0, Nat.zero_le _, e4⟩ ?_ ?_
   ·skip
    try dsimp only
    try dsimp only
    refine Sub.cutF 2 (by simp) ?_ ?_ <;> simp [List.range_succ, toIdx_range, passed]
   ·skip
    rintro ⟨j4, hi4, e4⟩
    simp only at hi4 e4 ⊢
    refine EV.seq ?_
    refine EV.seq ?_
    refine EV.regionG tabOK ?_ -- region 4
    simp (maxSteps := 2000000) -implicitDefEqProofs
    refine EV.room 2 (by rfl) (fun mj4 => ?_)
    simp at mj4
    refine EV.condT ?_
    simp -implicitDefEqProofs
    refine condT_intro (fun k2 => ?_) (fun k2 => ?_)
    ·try simp at k2
     have u2 : j4 < p2.length := by omega
     obtain ⟨x4, hx4⟩ : ∃ z, p2[j4] = z := ⟨_, rfl⟩
     have mx4 : x4 ∈ p2 := by rw [← hx4]; exact List.getElem_mem _
     rw [List.drop_eq_getElem_cons u2, hx4, rUses_l4] at e4
     refine EV.skip ?_
     simp only [thenK_normal, blockK_normal, scopeK_normal]
     refine EV.seq ?_
     refine EV.block ?_
     refine EV.seq ?_
     refine EV.drawG tabOK mixedOK ?_ -- region 6
     simp (maxSteps := 2000000) -implicitDefEqProofs [k2, u2, hx4]
     refine callG_fun (w_rUse p0 p1 x4) ?_ ?_
     ·first | (simp; done) | (simp [k2, u2, hx4]; done)
     simp (maxSteps := 2000000) -implicitDefEqProofs [k2, u2, hx4]
     refine And.intro ?_ ?_
     ·first | decide +kernel | (simp -implicitDefEqProofs; decide +kernel) | (split <;> decide +kernel)
     try simp -implicitDefEqProofs
     refine EV.seq ?_
     refine EV.seq ?_
     refine EV.regionG tabOK ?_ -- region 7
     simp (maxSteps := 2000000) -implicitDefEqProofs [k2, u2, hx4]
     refine EV.condT ?_
     simp -implicitDefEqProofs [k2, u2, hx4]
     refine condT_intro (fun k3 => ?_) (fun k3 => ?_)
     ·try simp at k3
      obtain ⟨f3, e4⟩ := pos_on2 e4 (by first | simpa using k3 | grind)
      try simp at f3
      refine EV.seq ?_
      refine EV.regionG tabOK ?_ -- region 8
      simp (maxSteps := 2000000) -implicitDefEqProofs [k2, u2, hx4]
      refine EV.ret ?_
      simp only [thenK_ret, blockK_ret, scopeK_ret, bodyK_ret]
      replace e := run_back e e4
      subst e
      refine Fin.pure0 ?_
      first | (simp; done) | (simp <;> grind)
     ·try simp at k3
      obtain ⟨f3, e4⟩ := neg_on2 e4 (by first | simpa using k3 | grind)
      try simp at f3
      refine EV.skip ?_
      simp only [thenK_normal, blockK_normal, scopeK_normal]
      refine EV.seq ?_
      obtain ⟨y9_3, gy9_3⟩ : ∃ z, (p3.getD j4 default) = z := ⟨_, rfl⟩
      replace e4 := bnd_on e4 gy9_3
      try dsimp only at e4
      have b4 : 0 ≤ (j4 : Int) ∧ (j4 : Int) < (p3.length : Int) := by omega
      have c4 : j4 < p3.length := by omega
      have hy9_3 : p3[j4] = y9_3 := by rw [← gy9_3, List.getD_eq_getElem?_getD, List.getElem?_eq_getElem c4]; rfl
      have my9_3 : y9_3 ∈ p3 := by rw [← hy9_3]; exact List.getElem_mem _
      refine EV.drawG tabOK mixedOK ?_ -- region 9
      simp (maxSteps := 2000000) -implicitDefEqProofs [k2, u2, hx4, b4, c4, hy9_3]
      refine callG_fun (w_rResolve p0 y9_3) ?_ ?_
      ·first | (simp; done) | (simp [k2, u2, hx4, b4, c4, hy9_3]; done)
      simp (maxSteps := 2000000) -implicitDefEqProofs [k2, u2, hx4, b4, c4, hy9_3]
      refine And.intro ?_ ?_
      ·first | decide +kernel | (simp -implicitDefEqProofs; decide +kernel) | (split <;> decide +kernel)
      try simp -implicitDefEqProofs
      refine EV.seq ?_
      refine EV.regionG tabOK ?_ -- region 10
      simp (maxSteps := 2000000) -implicitDefEqProofs [k2, u2, hx4, b4, c4, hy9_3]
      refine callG_fun (w_rSameTy ((rUse p0 p1 x4).1) ((rResolve p0 y9_3).1)) ?_ ?_
      ·first | (simp; done) | (simp [k2, u2, hx4, b4, c4, hy9_3]; done)
      simp (maxSteps := 2000000) -implicitDefEqProofs [k2, u2, hx4, b4, c4, hy9_3]
      refine EV.seq ?_
      refine EV.regionG tabOK ?_ -- region 11
      simp (maxSteps := 2000000) -implicitDefEqProofs +contextual [k2, u2, hx4, b4, c4, hy9_3]
      refine EV.condT ?_
      simp -implicitDefEqProofs [k2, u2, hx4, b4, c4, hy9_3]
      refine condT_intro (fun k5 => ?_) (fun k5 => ?_)
      ·try simp at k5
       obtain ⟨f5, e4⟩ := pos_on2 e4 (by first | simpa using k5 | grind)
       try simp at f5
       refine EV.seq ?_
       refine EV.regionG tabOK ?_ -- region 12
       simp (maxSteps := 2000000) -implicitDefEqProofs [k2, u2, hx4, b4, c4, hy9_3]
       refine EV.ret ?_
       simp only [thenK_ret, blockK_ret, scopeK_ret, bodyK_ret]
       replace e := run_back e e4
       subst e
       refine Fin.pure0 ?_
       first | (simp; done) | (simp <;> grind)
      ·try simp at k5
       obtain ⟨f5, e4⟩ := neg_on2 e4 (by first | simpa using k5 | grind)
       try simp at f5
       refine EV.skip ?_
       simp only [thenK_normal, blockK_normal, scopeK_normal]
       refine EV.regionG tabOK ?_ -- region 5
       simp (maxSteps := 2000000) -implicitDefEqProofs [k2, u2, hx4, b4, c4, hy9_3]
       have w4 : IntKind.i64.wrap ((j4 : Int) + 1) = (j4 : Int) + 1 := wrap_in _ (by omega) (by omega)
       refine ⟨⟨j4 + 1, by omega, e4⟩, by dsimp only; omega, ?_⟩
       try dsimp only
       refine Sub.cutF 2 (by simp) ?_ ?_ <;> simp [List.range_succ, toIdx_range, passed, k2, u2, hx4, b4, c4, hy9_3, w4]
    ·try simp at k2
     have d2 : p2.drop j4 = [] := List.drop_eq_nil_of_le (by omega)
     rw [d2, rUses_l4] at e4
     refine EV.exit ?_
     simp -implicitDefEqProofs
     refine ⟨⟨((), ()), e4.symm⟩, ?_⟩
     try dsimp only
     refine Sub.cutF 0 (by simp) ?_ ?_ <;> simp [List.range_succ, toIdx_range, passed]
  ·skip
   rintro ⟨⟨v4, g4⟩, e4⟩
   simp only [thenK_normal, blockK_normal, scopeK_normal, bodyK_normal]
   replace e := run_on e e4
   try dsimp only at e
   refine EV.seq ?_
   refine EV.regionG tabOK ?_ -- region 13
   simp (maxSteps := 2000000) -implicitDefEqProofs
   refine EV.ret ?_
   simp only [thenK_ret, blockK_ret, scopeK_ret, bodyK_ret]
   subst e
   refine Fin.pure0 ?_
   first | (simp; done) | (simp <;> grind)
end
end Go.Proofs.Tryz
end
