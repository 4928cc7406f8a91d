/- What could have been read, in plain words; names. -/
import Derived.Test.YtakfpmogpnoibaaGreatDoorRefA
import Derived.Test.YtakfpmogpnoibaaGreatDoorNamA
import Derived.Test.YtakfpmogpnoibaaGreatDoorMachD
import Derived.Test.YtakfpmogpnoibaaGreatDoorValT
import Derived.Test.YtakfpmogpnoibaaGreatDoorSamT
import Derived.Test.YtakfpmogpnoibaaGreatDoorValU
set_option linter.unusedVariables false
set_option linter.unusedSimpArgs false
set_option linter.constructorNameAsVariable false
section
namespace Go.Proofs.Tryz
open Go Go.AM
attribute [local simp] wpG_op wpG_nil contG_some wpG_guard guardG_v guardG_o guardG_tup gval pureOp stepG_if isPick pickG_pick pickB_b pickOK isCall step_move step_assign step_alloc step_box boxV_some step_load step_store step_binOp step_unOp step_fieldAddr faV step_indexAddr ixA_slc ixA_arr step_extract extV_tup step_nilCheck ncV_ptr ncV_rp ncV_fn ncV_mp step_build buildV step_buildSlice bsV step_index ixV_arr ixV_str step_append apB step_makeSlice msV_i step_makeFunc over step_len step_makeMap mmV step_mapUpdate step_insert muA_map muB_mp step_lookup lkA_map lkB_mp step_slice slcV_s slcV_sl slcV_ro cutB_some slObV_arr bound_none bound_some bndV_i lenB_str lenB_ro lenB_sl lenB_nil lenB_z ld_ptr ld_rp offV_ptr offV_rp idxV_ro idxV_sl unV_not unV_neg binV_int binV_str binV_eqlb binV_neqb intOp strOp St.put updL setOb St.ev toV St.lk cellsOf AM.valOf TK.agg stv fillV places TI.zero condT_true condT_false finS resL resSlot packV ren ren1 ren0 Value.cells builtinV appendV elemsOf keepT room_of wrap_in toIdx passed Function.comp_def take_len_map lenV touchOf hid tab1 tab2 tab3 tab4 tab5 tab6 tab7 tab8 tab9 tab20 tab22 tab23 tab24 tab26 tab32 tab33 tab35 tab36 tab37 tab39 tab41 tab42 tab43 tab45 tab46 tab47 tab49 tab50 tab52 tab74 tab79 tab83 tab86 tab87 tab89 tab92 tab100 tab101 tab102 tab103 tab105 tab107 tab108 tab113 tab114 tab116 tab117 tab118 tab122 tab123 tab125 tab127 tab130 tab132 tab136 tab173 tab175 tab178 tab179 tab180 tab182 tab189 tab215 tab219 tab220 tab224 tab225 tab241 tab244 tab247 tab253 tab261 tab262 tab265 tab266 armC_eq blockC_eq bodyC_eq enumC_eq fieldC_eq fnC_eq inC_eq localC_eq mirBodyC_eq operC_eq placeC_eq rvC_eq sourceC_eq spotC_eq stepC_eq stmtC_eq structC_eq tmC_eq tyC_eq useC_eq valueC_eq variantC_eq binV_eqls binV_neqs cutL_nil cutL_junk cutL_cons ren_arr ren_gone ren_unborn ren_var ren_row step_convert cvV_i cvV_sl cvV_s cvK_slc cvE_u8 bytesOf bor1 bor2 bor3 bor4
set_option linter.unusedSimpArgs false
set_option linter.unusedVariables false
set_option maxRecDepth 10000
set_option maxHeartbeats 4000000
noncomputable section

def rLetter (p0 : Int) : Bool :=
 (((decide (97 ≤ p0)) && (decide (p0 ≤ 122))) || ((decide (65 ≤ p0)) && (decide (p0 ≤ 90))))
def rDigit (p0 : Int) : Bool :=
 ((decide (48 ≤ p0)) && (decide (p0 ≤ 57)))
def rName_l2 (p0 : List UInt8) (p1 : Int) (a2_0 : Int) : Int :=
 (bnd (p0.getD (((IntKind.i64.wrap (p1 + a2_0))).toNat) 0) fun (y2_11 : UInt8) => (if ((IntKind.i64.wrap (p1 + a2_0)) < (p0.length : Int)) ∧ (((rLetter (y2_11.toNat : Int)) = true) ∨ ((0 < a2_0) ∧ (((rDigit (y2_11.toNat : Int)) = true) ∨ ((y2_11.toNat : Int) = 95)))) then (if _h : (((p0.length : Int) + 1 - ((IntKind.i64.wrap (a2_0 + 1)))).toNat) < (((p0.length : Int) + 1 - a2_0).toNat) then rName_l2 p0 p1 (IntKind.i64.wrap (a2_0 + 1)) else default) else a2_0))
 termination_by ((p0.length : Int) + 1 - a2_0).toNat
 decreasing_by exact _h
def rName (p0 : List UInt8) (p1 : Int) : Int :=
 (bnd (rName_l2 p0 p1 0) fun (v2 : Int) => v2)
def rWord (p0 : List UInt8) : Bool :=
 (((decide (0 < (p0.length : Int))) && (decide ((p0.length : Int) ≤ 24))) && (decide ((rName p0 0) = (p0.length : Int))))
def rUpper (p0 : List UInt8) : Bool :=
 (bnd (p0.getD 0 0) fun (y1_4 : UInt8) => (((rWord p0) && (decide (65 ≤ (y1_4.toNat : Int)))) && (decide ((y1_4.toNat : Int) ≤ 90))))
end
end Go.Proofs.Tryz
end
section
namespace Go.Proofs.Tryz
open Go Go.AM
set_option maxRecDepth 10000
set_option linter.unusedVariables false
noncomputable section
def rGreat (p0 : List UInt8) : Bool :=
 ((rUpper p0) && (!(rReserved p0)))
def rSmall (p0 : List UInt8) : Bool :=
 (((rWord p0) && (!(rUpper p0))) && (!(rReserved p0)))
def rValidTy_b (r_rValidTy : TyD → Int → Bool) (p0 : TyD) (p1 : Int) : Bool :=
 (if p0.k = 1 then ((decide (p0.name = ([] : List UInt8))) && (decide ((p0.l.length : Int) = 0))) else (if p0.k = 2 then ((rGreat p0.name) && (decide ((p0.l.length : Int) = 0))) else (if p0.k = 7 then ((rSmall p0.name) && (decide ((p0.l.length : Int) = 0))) else (if p0.k = 4 then (bnd (p0.l.getD 0 default) fun (y11_16 : TyD) => ((((decide (p1 < 60)) && (decide (p0.name = ([] : List UInt8)))) && (decide ((p0.l.length : Int) = 1))) && (r_rValidTy y11_16 (IntKind.i64.wrap (p1 + 1))))) else (if p0.k = 5 then (bnd (p0.l.getD 0 default) fun (y11_16 : TyD) => ((((decide (p1 < 60)) && (decide (p0.name = ([] : List UInt8)))) && (decide ((p0.l.length : Int) = 1))) && (r_rValidTy y11_16 (IntKind.i64.wrap (p1 + 1))))) else (if p0.k = 6 then (bnd (p0.l.getD 0 default) fun (y11_16 : TyD) => ((((decide (p1 < 60)) && (decide (p0.name = ([] : List UInt8)))) && (decide ((p0.l.length : Int) = 1))) && (r_rValidTy y11_16 (IntKind.i64.wrap (p1 + 1))))) else false))))))
def rValidTy_f : Nat → TyD → Int → Bool
 | 0, _, _ => default
 | k + 1, p0, p1 => rValidTy_b (rValidTy_f k) p0 p1
def rValidTy (p0 : TyD) (p1 : Int) : Bool := rValidTy_f (SizeOf.sizeOf p0 + 1) p0 p1
def rValidPlace_l4  : List StepD → Ctl (Bool) (Unit)
 | [] => .go ()
 | x4 :: xs4 => (if (¬ (x4.field = ([] : List UInt8))) ∧ (¬ ((rSmall x4.field) = true)) then .ret false else rValidPlace_l4 xs4)
def rValidPlace (p0 : PlaceD) (p1 : Bool) : Bool :=
 (if (¬ ((rSmall p0.name) = true)) ∨ ((p1 = true) ∧ (0 < (p0.path.length : Int))) then false else (Ctl.run (rValidPlace_l4 p0.path) fun (v4 : Unit) => true))
def rNoPlace (p0 : PlaceD) : Bool :=
 ((decide (p0.name = ([] : List UInt8))) && (decide ((p0.path.length : Int) = 0)))
def rValidOper (p0 : OperD) : Bool :=
 (if p0.num = true then ((rNoPlace p0.p) && (!(decide (p0.n = (-9223372036854775808))))) else ((decide (p0.n = 0)) && (rValidPlace p0.p false)))
def rNoOper (p0 : OperD) : Bool :=
 (((!p0.num) && (decide (p0.n = 0))) && (rNoPlace p0.p))
def rNoTy (p0 : TyD) : Bool :=
 (((decide (p0.k = 0)) && (decide (p0.name = ([] : List UInt8)))) && (decide ((p0.l.length : Int) = 0)))
def rNoRv (p0 : RvD) : Bool :=
 (((((decide (p0.k = 0)) && (decide ((p0.ops.length : Int) = 0))) && (rNoPlace p0.p)) && (decide (p0.name = ([] : List UInt8)))) && (decide (p0.variant = ([] : List UInt8))))
def rValidRv_l2  : List OperD → Ctl (Bool) (Unit)
 | [] => .go ()
 | x2 :: xs2 => (if ¬ ((rValidOper x2) = true) then .ret false else rValidRv_l2 xs2)
def rValidRv (p0 : RvD) : Bool :=
 (Ctl.run (rValidRv_l2 p0.ops) fun (v2 : Unit) => (bnd (if p0.k = 0 then true else (if p0.k = 8 then true else (decide (p0.k = 15)))) fun (v11 : Bool) => (if v11 = true then ((((decide (p0.name = ([] : List UInt8))) && (decide (p0.variant = ([] : List UInt8)))) && (decide ((p0.ops.length : Int) = 1))) && (rNoPlace p0.p)) else (bnd (if p0.k = 1 then true else (if p0.k = 2 then true else (if p0.k = 3 then true else (if p0.k = 4 then true else (decide (p0.k = 5)))))) fun (v15 : Bool) => (if v15 = true then ((((decide (p0.name = ([] : List UInt8))) && (decide (p0.variant = ([] : List UInt8)))) && (decide ((p0.ops.length : Int) = 2))) && (rNoPlace p0.p)) else (bnd (if p0.k = 6 then true else (decide (p0.k = 7))) fun (v21 : Bool) => (if v21 = true then ((((decide (p0.name = ([] : List UInt8))) && (decide (p0.variant = ([] : List UInt8)))) && (decide ((p0.ops.length : Int) = 0))) && (rValidPlace p0.p false)) else (bnd (if p0.k = 9 then true else (if p0.k = 13 then true else (decide (p0.k = 14)))) fun (v24 : Bool) => (if v24 = true then ((((decide (p0.name = ([] : List UInt8))) && (decide (p0.variant = ([] : List UInt8)))) && (decide ((p0.ops.length : Int) = 0))) && (rValidPlace p0.p true)) else (if p0.k = 10 then (((rGreat p0.name) && (decide (p0.variant = ([] : List UInt8)))) && (rNoPlace p0.p)) else (if p0.k = 11 then ((((rGreat p0.name) && (rGreat p0.variant)) && (decide ((p0.ops.length : Int) ≤ 1))) && (rNoPlace p0.p)) else (if p0.k = 12 then (((rSmall p0.name) && (decide (p0.variant = ([] : List UInt8)))) && (rNoPlace p0.p)) else false))))))))))))
def rValidBlock_b_l4 (r_rValidStmt : StmtD → Int → Bool) (p1 : Int) : List StmtD → Ctl (Bool) (Unit)
 | [] => .go ()
 | x4 :: xs4 => (if ¬ ((r_rValidStmt x4 p1) = true) then .ret false else rValidBlock_b_l4 r_rValidStmt p1 xs4)
def rValidBlock_b (r_rValidBlock : (List StmtD) → Int → Bool) (r_rValidStmt : StmtD → Int → Bool) (p0 : List StmtD) (p1 : Int) : Bool :=
 (if 60 < p1 then false else (Ctl.run (rValidBlock_b_l4 r_rValidStmt p1 p0) fun (v4 : Unit) => true))
def rValidStmt_b_l21 (r_rValidBlock : (List StmtD) → Int → Bool) (p1 : Int) : List ArmD → Ctl (Bool) (Unit)
 | [] => .go ()
 | x21 :: xs21 => (if ((¬ ((rGreat x21.variant) = true)) ∨ ((¬ (x21.bind = ([] : List UInt8))) ∧ (¬ ((rSmall x21.bind) = true)))) ∨ (¬ ((r_rValidBlock x21.body (IntKind.i64.wrap (p1 + 1))) = true)) then .ret false else rValidStmt_b_l21 r_rValidBlock p1 xs21)
def rValidStmt_b (r_rValidBlock : (List StmtD) → Int → Bool) (r_rValidStmt : StmtD → Int → Bool) (p0 : StmtD) (p1 : Int) : Bool :=
 (if p0.k = 0 then ((((((((rSmall p0.name) && (rValidTy p0.ty 0)) && (rValidRv p0.rv)) && (rNoPlace p0.p)) && (rNoOper p0.op)) && (decide ((p0.then_.length : Int) = 0))) && (decide ((p0.else_.length : Int) = 0))) && (decide ((p0.arms.length : Int) = 0))) else (if p0.k = 1 then ((((((((decide (p0.name = ([] : List UInt8))) && (rNoTy p0.ty)) && (rValidPlace p0.p false)) && (rValidRv p0.rv)) && (rNoOper p0.op)) && (decide ((p0.then_.length : Int) = 0))) && (decide ((p0.else_.length : Int) = 0))) && (decide ((p0.arms.length : Int) = 0))) else (if p0.k = 2 then ((((((((decide (p0.name = ([] : List UInt8))) && (rNoTy p0.ty)) && (rNoPlace p0.p)) && (rNoRv p0.rv)) && (rValidOper p0.op)) && (r_rValidBlock p0.then_ (IntKind.i64.wrap (p1 + 1)))) && (r_rValidBlock p0.else_ (IntKind.i64.wrap (p1 + 1)))) && (decide ((p0.arms.length : Int) = 0))) else (if p0.k = 3 then ((((((((decide (p0.name = ([] : List UInt8))) && (rNoTy p0.ty)) && (rNoPlace p0.p)) && (rNoRv p0.rv)) && (rValidOper p0.op)) && (r_rValidBlock p0.then_ (IntKind.i64.wrap (p1 + 1)))) && (decide ((p0.else_.length : Int) = 0))) && (decide ((p0.arms.length : Int) = 0))) else (if p0.k = 4 then (if (((((¬ ((p0.name = ([] : List UInt8)) ∧ ((rNoTy p0.ty) = true))) ∨ (¬ ((rValidPlace p0.p true) = true))) ∨ (¬ ((rNoRv p0.rv) = true))) ∨ (¬ ((rNoOper p0.op) = true))) ∨ (¬ ((p0.then_.length : Int) = 0))) ∨ (¬ ((p0.else_.length : Int) = 0)) then false else (Ctl.run (rValidStmt_b_l21 r_rValidBlock p1 p0.arms) fun (v21 : Unit) => true)) else (bnd (if p0.k = 5 then true else (if p0.k = 6 then true else (decide (p0.k = 7)))) fun (v28 : Bool) => (if v28 = true then ((((((((decide (p0.name = ([] : List UInt8))) && (rNoTy p0.ty)) && (rNoPlace p0.p)) && (rNoRv p0.rv)) && (rValidOper p0.op)) && (decide ((p0.then_.length : Int) = 0))) && (decide ((p0.else_.length : Int) = 0))) && (decide ((p0.arms.length : Int) = 0))) else (if p0.k = 8 then ((((((((decide (p0.name = ([] : List UInt8))) && (rNoTy p0.ty)) && (rValidPlace p0.p true)) && (rNoRv p0.rv)) && (rNoOper p0.op)) && (decide ((p0.then_.length : Int) = 0))) && (decide ((p0.else_.length : Int) = 0))) && (decide ((p0.arms.length : Int) = 0))) else false))))))))
mutual
def rValidBlock_f : Nat → (List StmtD) → Int → Bool
 | 0, _, _ => default
 | k + 1, p0, p1 => rValidBlock_b (rValidBlock_f k) (rValidStmt_f k) p0 p1
def rValidStmt_f : Nat → StmtD → Int → Bool
 | 0, _, _ => default
 | k + 1, p0, p1 => rValidStmt_b (rValidBlock_f k) (rValidStmt_f k) p0 p1
end
def rValidBlock (p0 : List StmtD) (p1 : Int) : Bool := rValidBlock_f (SizeOf.sizeOf p0 + 1) p0 p1
def rValidFields_l2  : List FieldD → Ctl (Bool) (Unit)
 | [] => .go ()
 | x2 :: xs2 => (if (¬ ((rSmall x2.name) = true)) ∨ (¬ ((rValidTy x2.ty 0) = true)) then .ret false else rValidFields_l2 xs2)
def rValidFields (p0 : List FieldD) : Bool :=
 (Ctl.run (rValidFields_l2 p0) fun (v2 : Unit) => true)
def rValid05_l2  : List StructD → Ctl (Bool) (Unit)
 | [] => .go ()
 | x2 :: xs2 => (if (¬ ((rGreat x2.name) = true)) ∨ (¬ ((rValidFields x2.fields) = true)) then .ret false else rValid05_l2 xs2)
def rValid05_l12  : List VariantD → Ctl (Bool) (Unit)
 | [] => .go ()
 | x12 :: xs12 => (if (¬ ((rGreat x12.name) = true)) ∨ ((¬ ((rNoTy x12.ty) = true)) ∧ (¬ ((rValidTy x12.ty 0) = true))) then .ret false else rValid05_l12 xs12)
def rValid05_l7  : List EnumD → Ctl (Bool) (Unit)
 | [] => .go ()
 | x7 :: xs7 => (if ¬ ((rGreat x7.name) = true) then .ret false else (Ctl.bind (rValid05_l12 x7.variants) fun (v12 : Unit) => rValid05_l7 xs7))
def rValid05_l18  : List FnD → Ctl (Bool) (Unit)
 | [] => .go ()
 | x18 :: xs18 => (if ((¬ ((rSmall x18.name) = true)) ∨ (¬ ((rValidFields x18.params) = true))) ∨ (¬ ((rValidBlock x18.body 1) = true)) then .ret false else rValid05_l18 xs18)
def rValid05 (p0 : SourceD) : Bool :=
 (Ctl.run (rValid05_l2 p0.structs) fun (v2 : Unit) => (Ctl.run (rValid05_l7 p0.enums) fun (v7 : Unit) => (Ctl.run (rValid05_l18 p0.fns) fun (v18 : Unit) => true)))
end
end Go.Proofs.Tryz
end
section
namespace Go.AM
open Go
variable {α β γ : Type}

def all2 (c : α → β → Bool) : List α → List β → Bool
  | [], [] => true
  | x :: xs, y :: ys => c x y && all2 c xs ys
  | _, _ => false

theorem all2_len {c : α → β → Bool} : ∀ {xs : List α} {ys : List β}, all2 c xs ys = true → xs.length = ys.length
  | [], [], _ => rfl
  | [], _ :: _, h => by simp [all2] at h
  | _ :: _, [], h => by simp [all2] at h
  | x :: xs, y :: ys, h => by
    simp only [all2, Bool.and_eq_true] at h
    simp [all2_len h.2]

theorem all2_map {c : α → α → Bool} {f : α → γ} : ∀ {l l' : List α}, (∀ x ∈ l, ∀ y, c x y = true ↔ f x = f y) → (all2 c l l' = true ↔ l.map f = l'.map f)
  | [], [], _ => by simp [all2]
  | [], _ :: _, _ => by simp [all2]
  | _ :: _, [], _ => by simp [all2]
  | x :: xs, y :: ys, h => by
    simp only [all2, Bool.and_eq_true, List.map_cons, List.cons.injEq]
    rw [h x (by simp) y, all2_map (fun z hz => h z (by simp [hz]))]

theorem all2_eq {c : α → α → Bool} {l l' : List α} (h : ∀ x ∈ l, ∀ y, c x y = true ↔ x = y) : all2 c l l' = true ↔ l = l' := by
  have := all2_map (f := id) (l := l) (l' := l') h
  simpa using this

theorem loop_all2 [Inhabited β] {ρ : Type} {r : ρ} (L : List α → Nat → Ctl ρ Unit) (ys : List β) (c : α → β → Bool) (h0 : ∀ j, L [] j = .go ())
    (h1 : ∀ x xs j, L (x :: xs) j = if c x (ys.getD j default) = true then L xs (j + 1) else .ret r) :
    ∀ xs j, xs.length + j = ys.length → L xs j = if all2 c xs (ys.drop j) = true then .go () else .ret r
  | [], j, h => by
    rw [h0, List.drop_eq_nil_of_le (by simp at h; omega)]
    simp [all2]
  | x :: xs, j, h => by
    have hj : j < ys.length := by simp at h; omega
    rw [h1, List.drop_eq_getElem_cons hj, all2]
    have e : ys.getD j default = ys[j] := by rw [List.getD_eq_getElem?_getD, List.getElem?_eq_getElem hj]; rfl
    rw [e, loop_all2 L ys c h0 h1 xs (j + 1) (by simp at h; omega)]
    cases c x ys[j] <;> simp

theorem run_loop [Inhabited β] (L : List α → Nat → Ctl Bool Unit) (ys : List β) (c : α → β → Bool) (h0 : ∀ j, L [] j = .go ())
    (h1 : ∀ x xs j, L (x :: xs) j = if c x (ys.getD j default) = true then L xs (j + 1) else .ret false) (xs : List α) (f : Unit → Bool) (hl : xs.length = ys.length) :
    Ctl.run (L xs 0) f = (all2 c xs ys && f ()) := by
  rw [loop_all2 L ys c h0 h1 xs 0 (by simpa using hl)]
  cases h : all2 c xs ys <;> simp [h, Ctl.run]

theorem all2_false {c : α → β → Bool} {xs : List α} {ys : List β} (h : xs.length ≠ ys.length) : all2 c xs ys = false := by
  cases e : all2 c xs ys with
  | false => rfl
  | true => exact absurd (all2_len e) h

theorem loop_all {ρ : Type} {r : ρ} (L : List α → Ctl ρ Unit) (c : α → Bool) (h0 : L [] = .go ())
    (h1 : ∀ x xs, L (x :: xs) = if c x = true then L xs else .ret r) : ∀ xs, L xs = if xs.all c = true then .go () else .ret r
  | [] => by rw [h0]; rfl
  | x :: xs => by
    rw [h1, loop_all L c h0 h1 xs]
    cases hx : c x <;> simp [hx]
theorem run_all (L : List α → Ctl Bool Unit) (c : α → Bool) (h0 : L [] = .go ())
    (h1 : ∀ x xs, L (x :: xs) = if c x = true then L xs else .ret false) (xs : List α) (f : Unit → Bool) : Ctl.run (L xs) f = (xs.all c && f ()) := by
  rw [loop_all L c h0 h1]
  cases h : xs.all c <;> simp [h, Ctl.run]
end Go.AM
end
section
namespace Go.Proofs.Tryz
open Go Go.AM
set_option maxRecDepth 10000
set_option linter.unusedVariables false
noncomputable section
end
end Go.Proofs.Tryz
end
section
namespace Go.Proofs.Tryz
open Go Go.AM
set_option maxRecDepth 10000

theorem letter_eq (b : UInt8) : tLetter (b.toNat : Int) = rLetter (b.toNat : Int) := by
  have h : ∀ n : Fin 256, tLetter ((n.val : Nat) : Int) = rLetter ((n.val : Nat) : Int) := by decide +kernel
  exact h ⟨b.toNat, b.toNat_lt⟩

theorem wrap_small {n : Int} (h : -9223372036854775808 ≤ n) (h2 : n ≤ 9223372036854775807) : IntKind.i64.wrap n = n := wrap_in n h h2

theorem name_len (s : List UInt8) (h : s.length ≤ 24) : ∀ (m : Nat) (n : Int), 1 ≤ n → n ≤ s.length → (s.length : Int) - n = m → rName_l2 s 0 n = tLen_l2 s tInner n := by
  intro m
  induction m with
  | zero =>
    intro n h1 h2 hm
    rw [rName_l2, tLen_l2]
    dsimp only [bnd]
    rw [if_neg, if_neg]
    · omega
    · rw [wrap_small (by omega) (by omega)]; omega
  | succ m ih =>
    intro n h1 h2 hm
    rw [rName_l2, tLen_l2]
    dsimp only [bnd]
    have hw : IntKind.i64.wrap (0 + n) = n := by rw [wrap_small (by omega) (by omega)]; omega
    have hw1 : IntKind.i64.wrap (n + 1) = n + 1 := wrap_small (by omega) (by omega)
    rw [hw, hw1]
    have hc : (n < (s.length : Int) ∧ (rLetter (((s.getD n.toNat 0).toNat : Nat) : Int) = true ∨ 0 < n ∧ (rDigit (((s.getD n.toNat 0).toNat : Nat) : Int) = true ∨ (((s.getD n.toNat 0).toNat : Nat) : Int) = 95))) ↔
        (n < (s.length : Int) ∧ tInner (((s.getD n.toNat 0).toNat : Nat) : Int) = true) := by
      have e : tDigit (((s.getD n.toNat 0).toNat : Nat) : Int) = rDigit (((s.getD n.toNat 0).toNat : Nat) : Int) := rfl
      unfold tInner
      rw [letter_eq, e]
      simp only [Bool.or_eq_true, decide_eq_true_eq]
      constructor
      · rintro ⟨a, b | ⟨_, b | b⟩⟩
        · exact ⟨a, .inl (.inl b)⟩
        · exact ⟨a, .inl (.inr b)⟩
        · exact ⟨a, .inr b⟩
      · rintro ⟨a, (b | b) | b⟩
        · exact ⟨a, .inl b⟩
        · exact ⟨a, .inr ⟨by omega, .inl b⟩⟩
        · exact ⟨a, .inr ⟨by omega, .inr b⟩⟩
    by_cases hh : n < (s.length : Int) ∧ tInner (((s.getD n.toNat 0).toNat : Nat) : Int) = true
    · rw [if_pos (hc.2 hh), if_pos hh, dif_pos (by omega), dif_pos (by omega)]
      exact ih (n + 1) (by omega) (by omega) (by omega)
    · rw [if_neg (fun x => hh (hc.1 x)), if_neg hh]

theorem rName0 (s : List UInt8) (h0 : 0 < s.length) (h : s.length ≤ 24) : rName s 0 = if rLetter (((s.getD 0 0).toNat : Nat) : Int) = true then tLen_l2 s tInner 1 else 0 := by
  have w0 : IntKind.i64.wrap (0 + 0) = 0 := by decide
  have w1 : IntKind.i64.wrap (0 + 1) = 1 := by decide
  have hz : (0 : Int).toNat = 0 := rfl
  dsimp only [rName, bnd]
  rw [rName_l2]
  dsimp only [bnd]
  rw [w0, w1, hz]
  by_cases hlet : rLetter (((s.getD 0 0).toNat : Nat) : Int) = true
  · rw [if_pos hlet, if_pos ⟨by omega, Or.inl hlet⟩, dif_pos (by omega), name_len s h (s.length - 1) 1 (by omega) (by omega) (by omega)]
  · rw [if_neg hlet, if_neg]
    rintro ⟨_, h | ⟨h, _⟩⟩
    · exact hlet h
    · omega
theorem tLen0 (s : List UInt8) (h0 : 0 < s.length) (hlet : rLetter (((s.getD 0 0).toNat : Nat) : Int) = true) : tLen s tInner = tLen_l2 s tInner 1 := by
  have w1 : IntKind.i64.wrap (0 + 1) = 1 := by decide
  have hz : (0 : Int).toNat = 0 := rfl
  dsimp only [tLen, bnd]
  rw [tLen_l2]
  dsimp only [bnd]
  have hi : tInner (((s.getD 0 0).toNat : Nat) : Int) = true := by unfold tInner; rw [letter_eq, hlet]; rfl
  rw [w1, hz, if_pos ⟨by omega, hi⟩, dif_pos (by omega)]

theorem word_eq (s : List UInt8) : tWord s = rWord s := by
  dsimp only [tWord, rWord, bnd]
  by_cases h0 : s = []
  · subst h0; rfl
  have hl : 0 < s.length := List.length_pos_iff.2 h0
  by_cases h24 : s.length ≤ 24
  · have hL : (s.length : Int) ≤ 24 := by omega
    have hl' : (0 : Int) < (s.length : Int) := by omega
    rw [rName0 s hl h24, letter_eq, decide_eq_false h0, decide_eq_true hL, decide_eq_true hl']
    by_cases hlet : rLetter (((s.getD 0 0).toNat : Nat) : Int) = true
    · rw [if_pos hlet, tLen0 s hl hlet, hlet]; rfl
    · rw [if_neg hlet, show rLetter (((s.getD 0 0).toNat : Nat) : Int) = false by simpa using hlet, decide_eq_false (show ¬ ((0 : Int) = (s.length : Int)) by omega)]
      rfl
  · rw [decide_eq_false (show ¬ ((s.length : Int) ≤ 24) by omega)]
    simp

theorem word_first {s : List UInt8} (h : tWord s = true) : rLetter (((s.getD 0 0).toNat : Nat) : Int) = true := by
  dsimp only [tWord, bnd] at h
  simp only [Bool.and_eq_true] at h
  rw [← letter_eq]
  exact h.1.2

theorem upper_eq (s : List UInt8) : tUpper s = rUpper s := by
  dsimp only [tUpper, rUpper, bnd]
  rw [← word_eq]
  cases h : tWord s with
  | false => rfl
  | true =>
    have hl := word_first h
    unfold rLetter at hl
    simp only [Bool.or_eq_true, Bool.and_eq_true, decide_eq_true_eq] at hl
    have e : decide ((65 : Int) ≤ (((s.getD 0 0).toNat : Nat) : Int)) = true := by rw [decide_eq_true_eq]; omega
    rw [e]
    rfl
end Go.Proofs.Tryz
end
section
namespace Go.Proofs.Tryz
open Go Go.AM
set_option maxRecDepth 10000

mutual
def stripS : StmtD → StmtD
  | ⟨k, _, name, ty, p, rv, op, then_, else_, arms⟩ => ⟨k, 0, name, ty, p, rv, op, stripL then_, stripL else_, stripA arms⟩
def stripL : List StmtD → List StmtD
  | [] => []
  | t :: ts => stripS t :: stripL ts
def stripM : ArmD → ArmD
  | ⟨variant, bind, body⟩ => ⟨variant, bind, stripL body⟩
def stripA : List ArmD → List ArmD
  | [] => []
  | t :: ts => stripM t :: stripA ts
end
theorem stripL_map : ∀ l, stripL l = l.map stripS
  | [] => by rw [stripL]; rfl
  | t :: ts => by rw [stripL, stripL_map ts]; rfl
theorem stripA_map : ∀ l, stripA l = l.map stripM
  | [] => by rw [stripA]; rfl
  | t :: ts => by rw [stripA, stripA_map ts]; rfl
theorem stripS_iff (a b : StmtD) : stripS a = stripS b ↔ a.k = b.k ∧ a.name = b.name ∧ a.ty = b.ty ∧ a.p = b.p ∧ a.rv = b.rv ∧ a.op = b.op ∧ a.then_.map stripS = b.then_.map stripS ∧ a.else_.map stripS = b.else_.map stripS ∧ a.arms.map stripM = b.arms.map stripM := by
  obtain ⟨k, at_, name, ty, p, rv, op, then_, else_, arms⟩ := a
  obtain ⟨k', at_', name', ty', p', rv', op', then_', else_', arms'⟩ := b
  rw [stripS, stripS]
  simp only [stripL_map, stripA_map, StmtD.mk.injEq, true_and]
theorem stripM_iff (a b : ArmD) : stripM a = stripM b ↔ a.variant = b.variant ∧ a.bind = b.bind ∧ a.body.map stripS = b.body.map stripS := by
  obtain ⟨v, i, y⟩ := a
  obtain ⟨v', i', y'⟩ := b
  rw [stripM, stripM]
  simp only [stripL_map, ArmD.mk.injEq]

theorem TyD.ext_iff' (a b : TyD) : a = b ↔ a.k = b.k ∧ a.name = b.name ∧ a.l = b.l := by cases a; cases b; simp

theorem step_iff (a b : StepD) : a = b ↔ a.field = b.field := by cases a; cases b; simp
theorem place_iff (a b : PlaceD) : a = b ↔ a.name = b.name ∧ a.path = b.path := by cases a; cases b; simp
theorem oper_iff (a b : OperD) : a = b ↔ a.num = b.num ∧ a.n = b.n ∧ a.p = b.p := by cases a; cases b; simp
theorem rv_iff (a b : RvD) : a = b ↔ a.k = b.k ∧ a.ops = b.ops ∧ a.p = b.p ∧ a.name = b.name ∧ a.variant = b.variant := by cases a; cases b; simp
theorem field_iff (a b : FieldD) : a = b ↔ a.name = b.name ∧ a.ty = b.ty := by cases a; cases b; simp
theorem variant_iff (a b : VariantD) : a = b ↔ a.name = b.name ∧ a.ty = b.ty := by cases a; cases b; simp

def stripSt (x : StructD) : StructD := { x with at_ := 0 }
def stripEn (x : EnumD) : EnumD := { x with at_ := 0 }
def stripFn (x : FnD) : FnD := { x with at_ := 0, body := x.body.map stripS }
theorem stripSt_iff (a b : StructD) : stripSt a = stripSt b ↔ a.name = b.name ∧ a.drop_ = b.drop_ ∧ a.fields = b.fields := by cases a; cases b; simp [stripSt]
theorem stripEn_iff (a b : EnumD) : stripEn a = stripEn b ↔ a.name = b.name ∧ a.variants = b.variants := by cases a; cases b; simp [stripEn]
theorem stripFn_iff (a b : FnD) : stripFn a = stripFn b ↔ a.name = b.name ∧ a.params = b.params ∧ a.body.map stripS = b.body.map stripS := by cases a; cases b; simp [stripFn]
def SameD (a b : SourceD) : Prop := a.structs.map stripSt = b.structs.map stripSt ∧ a.enums.map stripEn = b.enums.map stripEn ∧ a.fns.map stripFn = b.fns.map stripFn

end Go.Proofs.Tryz
end
section
namespace Go.Proofs.Tryz
open Go Go.AM
set_option maxRecDepth 10000

theorem eqTy_eq (a b : List TyD) (r : TyD → TyD → Bool) : eqTy a b r = all2 r a b := by
  unfold eqTy
  by_cases hl : a.length = b.length
  · rw [if_neg (by omega), run_loop (eqTy_l4 b r) b r (fun j => by rw [eqTy_l4]) (fun x xs j => by rw [eqTy_l4]; dsimp only [bnd]; generalize b.getD j default = y; cases r x y <;> simp) _ _ hl, Bool.and_true]
  · rw [all2_false hl, if_pos (by omega)]

theorem eqOper_eq (a b : List OperD) (r : OperD → OperD → Bool) : eqOper a b r = all2 r a b := by
  unfold eqOper
  by_cases hl : a.length = b.length
  · rw [if_neg (by omega), run_loop (eqOper_l4 b r) b r (fun j => by rw [eqOper_l4]) (fun x xs j => by rw [eqOper_l4]; dsimp only [bnd]; generalize b.getD j default = y; cases r x y <;> simp) _ _ hl, Bool.and_true]
  · rw [all2_false hl, if_pos (by omega)]

theorem eqStmt_eq (a b : List StmtD) (r : StmtD → StmtD → Bool) : eqStmt a b r = all2 r a b := by
  unfold eqStmt
  by_cases hl : a.length = b.length
  · rw [if_neg (by omega), run_loop (eqStmt_l4 b r) b r (fun j => by rw [eqStmt_l4]) (fun x xs j => by rw [eqStmt_l4]; dsimp only [bnd]; generalize b.getD j default = y; cases r x y <;> simp) _ _ hl, Bool.and_true]
  · rw [all2_false hl, if_pos (by omega)]

theorem eqArm_eq (a b : List ArmD) (r : ArmD → ArmD → Bool) : eqArm a b r = all2 r a b := by
  unfold eqArm
  by_cases hl : a.length = b.length
  · rw [if_neg (by omega), run_loop (eqArm_l4 b r) b r (fun j => by rw [eqArm_l4]) (fun x xs j => by rw [eqArm_l4]; dsimp only [bnd]; generalize b.getD j default = y; cases r x y <;> simp) _ _ hl, Bool.and_true]
  · rw [all2_false hl, if_pos (by omega)]

theorem eqStep_eq (a b : List StepD) : eqStep a b = all2 (fun x y => decide (x.field = y.field)) a b := by
  unfold eqStep
  by_cases hl : a.length = b.length
  · rw [if_neg (by omega), run_loop (eqStep_l4 b) b (fun x y => decide (x.field = y.field)) (fun j => by rw [eqStep_l4]) (fun x xs j => by rw [eqStep_l4]; dsimp only [bnd]; generalize b.getD j default = y; by_cases h : x.field = y.field <;> simp [h]) _ _ hl, Bool.and_true]
  · rw [all2_false hl, if_pos (by omega)]

theorem tSameTy_f_iff : ∀ (k : Nat) (a b : TyD), SizeOf.sizeOf a < k → (tSameTy_f k a b = true ↔ a = b)
  | 0, _, _, h => absurd h (Nat.not_lt_zero _)
  | k + 1, a, b, h => by
    rw [tSameTy_f, tSameTy_b, eqTy_eq, TyD.ext_iff']
    simp only [Bool.and_eq_true, decide_eq_true_eq]
    rw [all2_eq (fun x hx y => tSameTy_f_iff k x y (by have := List.sizeOf_lt_of_mem hx; have := sz_TyD_l a; omega)), and_assoc]
theorem tSameTy_iff (a b : TyD) : tSameTy a b = true ↔ a = b := tSameTy_f_iff _ _ _ (Nat.lt_succ_self _)
theorem tSamePlace_iff (a b : PlaceD) : tSamePlace a b = true ↔ a = b := by
  rw [tSamePlace, eqStep_eq, place_iff]
  simp only [Bool.and_eq_true, decide_eq_true_eq]
  rw [all2_eq (fun x _ y => by rw [step_iff]; simp)]
theorem tSameOper_iff (a b : OperD) : tSameOper a b = true ↔ a = b := by
  rw [tSameOper, oper_iff]
  simp only [Bool.and_eq_true, decide_eq_true_eq, tSamePlace_iff, beq_iff_eq, and_assoc]
theorem tSameRv_iff (a b : RvD) : tSameRv a b = true ↔ a = b := by
  rw [tSameRv, eqOper_eq, rv_iff]
  simp only [Bool.and_eq_true, decide_eq_true_eq, tSamePlace_iff]
  rw [all2_eq (fun x _ y => tSameOper_iff x y)]
  grind

theorem tSame_f_iff : ∀ k : Nat, (∀ a b : StmtD, SizeOf.sizeOf a < k → (tSameStmt_f k a b = true ↔ stripS a = stripS b)) ∧ (∀ a b : ArmD, SizeOf.sizeOf a < k → (tSameArm_f k a b = true ↔ stripM a = stripM b))
  | 0 => ⟨fun _ _ h => absurd h (Nat.not_lt_zero _), fun _ _ h => absurd h (Nat.not_lt_zero _)⟩
  | k + 1 => by
    obtain ⟨hS, hA⟩ := tSame_f_iff k
    refine ⟨fun a b h => ?_, fun a b h => ?_⟩
    · rw [tSameStmt_f, tSameStmt_b, stripS_iff, eqStmt_eq, eqStmt_eq, eqArm_eq]
      have h1 := sz_StmtD_then_ a
      have h2 := sz_StmtD_else_ a
      have h3 := sz_StmtD_arms a
      have e1 := all2_map (c := tSameStmt_f k) (f := stripS) (l := a.then_) (l' := b.then_) (fun x hx y => hS x y (by have := List.sizeOf_lt_of_mem hx; omega))
      have e2 := all2_map (c := tSameStmt_f k) (f := stripS) (l := a.else_) (l' := b.else_) (fun x hx y => hS x y (by have := List.sizeOf_lt_of_mem hx; omega))
      have e3 := all2_map (c := tSameArm_f k) (f := stripM) (l := a.arms) (l' := b.arms) (fun x hx y => hA x y (by have := List.sizeOf_lt_of_mem hx; omega))
      rw [← e1, ← e2, ← e3]
      rw [← tSameTy_iff a.ty b.ty, ← tSamePlace_iff a.p b.p, ← tSameRv_iff a.rv b.rv, ← tSameOper_iff a.op b.op]
      by_cases g1 : a.k = b.k <;> by_cases g2 : a.name = b.name <;> cases tSameTy a.ty b.ty <;> cases tSamePlace a.p b.p <;> cases tSameRv a.rv b.rv <;> cases tSameOper a.op b.op <;> simp [g1, g2, and_assoc]
    · rw [tSameArm_f, tSameArm_b, stripM_iff, eqStmt_eq]
      have h1 := sz_ArmD_body a
      rw [Bool.and_eq_true, Bool.and_eq_true, decide_eq_true_eq, decide_eq_true_eq]
      rw [all2_map (c := tSameStmt_f k) (f := stripS) (fun x hx y => hS x y (by have := List.sizeOf_lt_of_mem hx; omega)), and_assoc]
theorem tSameStmt_iff (a b : StmtD) : tSameStmt a b = true ↔ stripS a = stripS b := (tSame_f_iff _).1 a b (Nat.lt_succ_self _)

theorem bool_iff {x y : Bool} {p : Prop} (h1 : x = true ↔ p) (h2 : y = true ↔ p) : x = y := by cases x <;> cases y <;> simp_all
end Go.Proofs.Tryz
end
section
namespace Go.Proofs.Tryz
open Go Go.AM
set_option maxRecDepth 10000

theorem ite_flip {a b : List UInt8} {x y : Bool} (h : x = y) : (if a = b then true else x) = (if b = a then true else y) := by
  subst h
  by_cases h : a = b
  · rw [if_pos h, if_pos h.symm]
  · rw [if_neg h, if_neg (fun e => h e.symm)]
theorem run_ite {c : Prop} [Decidable c] (x : Ctl Bool Unit) (f : Unit → Bool) : Ctl.run (if c then .ret true else x) f = if c then true else Ctl.run x f := by split <;> rfl
theorem res_eq (s : List UInt8) : tReserved s = rReserved s := by
  unfold tReserved rReserved resWords
  simp only [rReserved_l3, run_ite]
  iterate 20 refine ite_flip ?_
  rfl
theorem great_eq (s : List UInt8) : tGreat s = rGreat s := by unfold tGreat rGreat; rw [upper_eq, res_eq]
theorem small_eq (s : List UInt8) : tSmall s = rSmall s := by unfold tSmall rSmall; rw [upper_eq, res_eq, word_eq]
theorem vty_f_eq : ∀ k, tValidTy_f k = rValidTy_f k
  | 0 => rfl
  | k + 1 => by
    funext t d
    rw [tValidTy_f, rValidTy_f, vty_f_eq k]
    unfold tValidTy_b rValidTy_b
    rw [great_eq, small_eq]
theorem vty_eq (t : TyD) (d : Int) : tValidTy t d = rValidTy t d := by unfold tValidTy rValidTy; rw [vty_f_eq]

theorem allStep_eq (l : List StepD) (c : StepD → Bool) : allStep l c = l.all c := by
  unfold allStep
  rw [run_all (allStep_l2 c) c (by rw [allStep_l2]) (fun x xs => by rw [allStep_l2]; cases c x <;> simp) l, Bool.and_true]
theorem allOper_eq (l : List OperD) (c : OperD → Bool) : allOper l c = l.all c := by
  unfold allOper
  rw [run_all (allOper_l2 c) c (by rw [allOper_l2]) (fun x xs => by rw [allOper_l2]; cases c x <;> simp) l, Bool.and_true]
theorem allStmt_eq (l : List StmtD) (c : StmtD → Bool) : allStmt l c = l.all c := by
  unfold allStmt
  rw [run_all (allStmt_l2 c) c (by rw [allStmt_l2]) (fun x xs => by rw [allStmt_l2]; cases c x <;> simp) l, Bool.and_true]
theorem allArm_eq (l : List ArmD) (c : ArmD → Bool) : allArm l c = l.all c := by
  unfold allArm
  rw [run_all (allArm_l2 c) c (by rw [allArm_l2]) (fun x xs => by rw [allArm_l2]; cases c x <;> simp) l, Bool.and_true]
theorem allField_eq (l : List FieldD) (c : FieldD → Bool) : allField l c = l.all c := by
  unfold allField
  rw [run_all (allField_l2 c) c (by rw [allField_l2]) (fun x xs => by rw [allField_l2]; cases c x <;> simp) l, Bool.and_true]
theorem allVariant_eq (l : List VariantD) (c : VariantD → Bool) : allVariant l c = l.all c := by
  unfold allVariant
  rw [run_all (allVariant_l2 c) c (by rw [allVariant_l2]) (fun x xs => by rw [allVariant_l2]; cases c x <;> simp) l, Bool.and_true]
theorem allStruct_eq (l : List StructD) (c : StructD → Bool) : allStruct l c = l.all c := by
  unfold allStruct
  rw [run_all (allStruct_l2 c) c (by rw [allStruct_l2]) (fun x xs => by rw [allStruct_l2]; cases c x <;> simp) l, Bool.and_true]
theorem allEnum_eq (l : List EnumD) (c : EnumD → Bool) : allEnum l c = l.all c := by
  unfold allEnum
  rw [run_all (allEnum_l2 c) c (by rw [allEnum_l2]) (fun x xs => by rw [allEnum_l2]; cases c x <;> simp) l, Bool.and_true]
theorem allFn_eq (l : List FnD) (c : FnD → Bool) : allFn l c = l.all c := by
  unfold allFn
  rw [run_all (allFn_l2 c) c (by rw [allFn_l2]) (fun x xs => by rw [allFn_l2]; cases c x <;> simp) l, Bool.and_true]

theorem rValidPlace_eq (p : PlaceD) (b : Bool) : rValidPlace p b = (rSmall p.name && (!(b && decide (p.path ≠ [])) && p.path.all tValidPlace_1)) := by
  unfold rValidPlace
  rw [run_all rValidPlace_l4 tValidPlace_1 (by rw [rValidPlace_l4]) (fun x xs => by
    rw [rValidPlace_l4]; unfold tValidPlace_1; rw [small_eq]
    by_cases h : x.field = [] <;> cases rSmall x.field <;> simp [h]) p.path, Bool.and_true]
  cases h : rSmall p.name <;> cases b <;> by_cases h' : p.path = [] <;> simp [h']
theorem vplace_eq (p : PlaceD) : tValidPlace p = rValidPlace p false := by
  rw [tValidPlace, rValidPlace_eq, allStep_eq, small_eq]; simp
theorem vname_eq (p : PlaceD) : tValidName p = rValidPlace p true := by
  rw [tValidName, rValidPlace_eq, small_eq]
  cases h : p.path with
  | nil => simp
  | cons x l => simp; omega

theorem noPlace_iff (p : PlaceD) : rNoPlace p = true ↔ p = ⟨[], []⟩ := by
  rw [rNoPlace, place_iff]; simp
theorem noOper_iff (o : OperD) : rNoOper o = true ↔ o = ⟨false, 0, ⟨[], []⟩⟩ := by
  rw [rNoOper, oper_iff]; simp [noPlace_iff, and_assoc]
theorem noTy_iff (t : TyD) : rNoTy t = true ↔ t = ⟨0, [], []⟩ := by
  rw [rNoTy, TyD.ext_iff']; simp [and_assoc]
theorem noRv_iff (v : RvD) : rNoRv v = true ↔ v = ⟨0, [], ⟨[], []⟩, [], []⟩ := by
  rw [rNoRv, rv_iff]; simp [noPlace_iff, and_assoc]
theorem samePlace_none (p : PlaceD) : tSamePlace p ⟨[], []⟩ = rNoPlace p := bool_iff (tSamePlace_iff _ _) (noPlace_iff p)
theorem samePlace_self (p : PlaceD) : tSamePlace p p = true := (tSamePlace_iff _ _).2 rfl
theorem sameTy_none (t : TyD) : tSameTy t ⟨0, [], []⟩ = rNoTy t := bool_iff (tSameTy_iff _ _) (noTy_iff t)
theorem voper_eq (o : OperD) : tValidOper o = rValidOper o := by
  unfold tValidOper rValidOper
  rw [samePlace_none, vplace_eq, Bool.and_comm]
theorem ite_both {c : Prop} [Decidable c] {a b x y : Bool} (h1 : a = x) (h2 : b = y) : (if c then a else b) = (if c then x else y) := by rw [h1, h2]
theorem vrv_eq (v : RvD) : tValidRv v = rValidRv v := by
  unfold tValidRv rValidRv
  rw [run_all rValidRv_l2 rValidOper (by rw [rValidRv_l2]) (fun x xs => by rw [rValidRv_l2]; cases rValidOper x <;> simp) v.ops, allOper_eq]
  rw [show tValidOper = rValidOper from funext voper_eq]
  cases v.ops.all rValidOper with
  | false => rfl
  | true =>
    rw [if_neg (by simp), Bool.true_and]
    unfold bnd
    simp only [samePlace_none, samePlace_self, vplace_eq, vname_eq, great_eq, small_eq, decide_true, Bool.and_true]
    refine ite_both (by ac_rfl) (ite_both (by ac_rfl) (ite_both (by ac_rfl) (ite_both (by ac_rfl) (ite_both ?_ (ite_both ?_ (ite_both ?_ rfl))))))
    · ac_rfl
    · ac_rfl
    · ac_rfl

theorem rB_small {k : Nat} {l : List StmtD} {d : Int} (h : rValidBlock_f k l d = true) : d ≤ 60 := by
  cases k with
  | zero => cases h
  | succ k =>
    rw [rValidBlock_f, rValidBlock_b] at h
    by_cases hd : 60 < d
    · rw [if_pos hd] at h; cases h
    · omega
theorem rB_eq (k : Nat) (l : List StmtD) (d : Int) : rValidBlock_f (k + 1) l d = (decide (d ≤ 60) && l.all fun t => rValidStmt_f k t d) := by
  rw [rValidBlock_f, rValidBlock_b]
  by_cases hd : 60 < d
  · rw [if_pos hd, decide_eq_false (by omega)]; rfl
  · rw [if_neg hd, decide_eq_true (by omega)]
    rw [run_all (rValidBlock_b_l4 (rValidStmt_f k) d) (fun t => rValidStmt_f k t d) (by rw [rValidBlock_b_l4]) (fun x xs => by rw [rValidBlock_b_l4]; cases rValidStmt_f k x d <;> simp) l, Bool.and_true, Bool.true_and]
theorem rArms_eq (rB : List StmtD → Int → Bool) (l : List ArmD) (d : Int) (f : Unit → Bool) : Ctl.run (rValidStmt_b_l21 rB d l) f =
    ((l.all fun a => rGreat a.variant && ((decide (a.bind = []) || rSmall a.bind) && rB a.body (IntKind.i64.wrap (d + 1)))) && f ()) :=
  run_all (rValidStmt_b_l21 rB d) _ (by rw [rValidStmt_b_l21]) (fun x xs => by
    rw [rValidStmt_b_l21]; cases rGreat x.variant <;> by_cases h : x.bind = [] <;> cases rSmall x.bind <;> cases rB x.body (IntKind.i64.wrap (d + 1)) <;> simp [h]) l f

theorem map_nil {α β : Type} {f : α → β} {l : List α} : l.map f = [] ↔ l = [] := by cases l <;> simp
theorem len_nil {α : Type} {l : List α} : ((l.length : Int) = 0) ↔ l = [] := by cases l <;> simp <;> omega

theorem shown_iff (t : StmtD) : tSameStmt t (tShown t) = true ↔
    (if t.k = 0 then t.p = ⟨[], []⟩ ∧ t.op = ⟨false, 0, ⟨[], []⟩⟩ ∧ t.then_ = [] ∧ t.else_ = [] ∧ t.arms = []
     else (t.name = [] ∧ t.ty = ⟨0, [], []⟩) ∧
      (if t.k = 1 then t.op = ⟨false, 0, ⟨[], []⟩⟩ ∧ t.then_ = [] ∧ t.else_ = [] ∧ t.arms = []
      else t.rv = ⟨0, [], ⟨[], []⟩, [], []⟩ ∧
       (if t.k = 2 then t.p = ⟨[], []⟩ ∧ t.arms = []
       else if t.k = 3 then t.p = ⟨[], []⟩ ∧ t.else_ = [] ∧ t.arms = []
       else (t.then_ = [] ∧ t.else_ = []) ∧ (if t.k = 4 then t.op = ⟨false, 0, ⟨[], []⟩⟩ else if t.k = 8 then t.op = ⟨false, 0, ⟨[], []⟩⟩ ∧ t.arms = [] else t.p = ⟨[], []⟩ ∧ t.arms = [])))) := by
  rw [tSameStmt_iff, stripS_iff]
  unfold tShown
  by_cases h0 : t.k = 0
  · simp only [if_pos h0, List.map_nil, map_nil]; grind
  by_cases h1 : t.k = 1
  · simp only [if_neg h0, if_pos h1, List.map_nil, map_nil]; grind
  by_cases h2 : t.k = 2
  · simp only [if_neg h0, if_neg h1, if_pos h2, List.map_nil, map_nil]; grind
  by_cases h3 : t.k = 3
  · simp only [if_neg h0, if_neg h1, if_neg h2, if_pos h3, List.map_nil, map_nil]; grind
  by_cases h4 : t.k = 4
  · simp only [if_neg h0, if_neg h1, if_neg h2, if_neg h3, if_pos h4, List.map_nil, map_nil]; grind
  by_cases h8 : t.k = 8
  · simp only [if_neg h0, if_neg h1, if_neg h2, if_neg h3, if_neg h4, if_pos h8, List.map_nil, map_nil]; grind
  · simp only [if_neg h0, if_neg h1, if_neg h2, if_neg h3, if_neg h4, if_neg h8, List.map_nil, map_nil]; grind
end Go.Proofs.Tryz
end
section
namespace Go.Proofs.Tryz
open Go Go.AM
set_option maxRecDepth 10000

theorem all_same {α : Type} {l : List α} {p q : α → Bool} (h : ∀ x ∈ l, p x = q x) : l.all p = l.all q := by
  induction l with
  | nil => rfl
  | cons x l ih => rw [List.all_cons, List.all_cons, h x (by simp), ih (fun y hy => h y (by simp [hy]))]

theorem tB_eq (k : Nat) (l : List StmtD) (d : Int) : tValidBlock_f (k + 1) l d = (decide (d ≤ 60) && l.all (tValidBlock_1 (tValidStmt_f k) d)) := by
  rw [tValidBlock_f, tValidBlock_b, allStmt_eq]
theorem tB1_eq (r : StmtD → Int → Bool) (d : Int) (t : StmtD) : tValidBlock_1 r d t = (tSameStmt t (tShown t) && r t (IntKind.i64.wrap (d + 1))) := rfl
theorem tA_eq (k : Nat) (a : ArmD) (d : Int) : tValidArm_f (k + 1) a d = (rGreat a.variant && ((decide (a.bind = []) || rSmall a.bind) && tValidBlock_f k a.body d)) := by
  rw [tValidArm_f, tValidArm_b, great_eq, small_eq, Bool.and_assoc]

theorem vmain (k : Nat) : ∀ k' : Nat, (∀ (l : List StmtD) (d : Int), SizeOf.sizeOf l < k → SizeOf.sizeOf l < k' → tValidBlock_f k l d = rValidBlock_f k' l d) ∧
    (∀ (t : StmtD) (d : Int), SizeOf.sizeOf t < k → SizeOf.sizeOf t < k' → (tSameStmt t (tShown t) && tValidStmt_f k t (IntKind.i64.wrap (d + 1))) = rValidStmt_f k' t d) := by
  induction k using Nat.strongRecOn with
  | ind k ih =>
    intro k'
    refine ⟨fun l d h1 h2 => ?_, fun t d h1 h2 => ?_⟩
    · obtain ⟨j, rfl⟩ : ∃ j, k = j + 1 := ⟨k - 1, by omega⟩
      obtain ⟨j', rfl⟩ : ∃ j, k' = j + 1 := ⟨k' - 1, by omega⟩
      rw [tB_eq, rB_eq]
      congr 1
      refine all_same fun t ht => ?_
      have := List.sizeOf_lt_of_mem ht
      rw [tB1_eq]
      exact (ih j (by omega) j').2 t d (by omega) (by omega)
    · obtain ⟨j, rfl⟩ : ∃ j, k = j + 1 := ⟨k - 1, by omega⟩
      obtain ⟨j', rfl⟩ : ∃ j, k' = j + 1 := ⟨k' - 1, by omega⟩
      have z1 := sz_StmtD_then_ t
      have z2 := sz_StmtD_else_ t
      have z3 := sz_StmtD_arms t
      generalize hw : IntKind.i64.wrap (d + 1) = w
      have e1 : tValidBlock_f j t.then_ w = rValidBlock_f j' t.then_ w := (ih j (by omega) j').1 _ _ (by omega) (by omega)
      have e2 : tValidBlock_f j t.else_ w = rValidBlock_f j' t.else_ w := (ih j (by omega) j').1 _ _ (by omega) (by omega)
      have e3 : (t.arms.all (tValidStmt_1 (tValidArm_f j) w)) = t.arms.all fun a => rGreat a.variant && ((decide (a.bind = []) || rSmall a.bind) && rValidBlock_f j' a.body w) := by
        refine all_same fun a ha => ?_
        have s1 := List.sizeOf_lt_of_mem ha
        have s2 := sz_ArmD_body a
        obtain ⟨i, rfl⟩ : ∃ i, j = i + 1 := ⟨j - 1, by omega⟩
        rw [tValidStmt_1, tA_eq, (ih i (by omega) j').1 a.body w (by omega) (by omega)]
      rw [tValidStmt_f, rValidStmt_f]
      unfold tValidStmt_b rValidStmt_b
      rw [rArms_eq, hw, e1, e2, allArm_eq, e3]
      generalize (t.arms.all fun a => rGreat a.variant && ((decide (a.bind = []) || rSmall a.bind) && rValidBlock_f j' a.body w)) = X
      have hz : t.else_ = [] → rValidBlock_f j' t.then_ w = true → rValidBlock_f j' t.else_ w = true := by
        intro h h2
        have := rB_small h2
        rw [h]
        obtain ⟨i, rfl⟩ : ∃ i, j' = i + 1 := ⟨j' - 1, by omega⟩
        rw [rB_eq]
        simpa using this
      generalize rValidBlock_f j' t.then_ w = Y at *
      generalize rValidBlock_f j' t.else_ w = Z at *
      rw [Bool.eq_iff_iff, Bool.and_eq_true, shown_iff]
      dsimp only [bnd]
      rw [vplace_eq, vname_eq, vrv_eq, voper_eq, small_eq, vty_eq]
      by_cases h0 : t.k = 0
      · simp only [if_pos h0, Bool.and_eq_true, decide_eq_true_eq, noPlace_iff, noOper_iff, len_nil]
        grind
      by_cases h1 : t.k = 1
      · simp only [if_neg h0, if_pos h1, Bool.and_eq_true, decide_eq_true_eq, noTy_iff, noOper_iff, len_nil]
        grind
      by_cases h2 : t.k = 2
      · simp only [if_neg h0, if_neg h1, if_pos h2, Bool.and_eq_true, decide_eq_true_eq, noTy_iff, noPlace_iff, noRv_iff, len_nil, if_true]
        grind
      by_cases h3 : t.k = 3
      · simp only [if_neg h0, if_neg h1, if_neg h2, if_pos h3, decide_eq_true h3, Bool.and_eq_true, decide_eq_true_eq, noTy_iff, noPlace_iff, noRv_iff, len_nil, if_true]
        grind
      have n2 : (if t.k = 2 then true else decide (t.k = 3)) = false := by rw [if_neg h2, decide_eq_false h3]
      rw [n2]
      by_cases h4 : t.k = 4
      · simp only [if_neg h0, if_neg h1, if_neg h2, if_neg h3, if_pos h4, Bool.and_eq_true, decide_eq_true_eq, noTy_iff, noPlace_iff, noRv_iff, noOper_iff, len_nil, Bool.false_eq_true, if_false, Bool.and_true]
        by_cases g1 : t.name = [] <;> by_cases g2 : t.ty = ⟨0, [], []⟩ <;> by_cases g3 : t.rv = ⟨0, [], ⟨[], []⟩, [], []⟩ <;> by_cases g4 : t.op = ⟨false, 0, ⟨[], []⟩⟩ <;> by_cases g5 : t.then_ = [] <;> by_cases g6 : t.else_ = [] <;> cases rValidPlace t.p true <;> simp [g1, g2, g3, g4, g5, g6, noTy_iff, noRv_iff, noOper_iff]
      by_cases h8 : t.k = 8
      · have n5 : (if t.k = 5 then true else if t.k = 6 then true else decide (t.k = 7)) = false := by rw [h8]; rfl
        simp only [n5, if_neg h0, if_neg h1, if_neg h2, if_neg h3, if_neg h4, if_pos h8, Bool.and_eq_true, decide_eq_true_eq, noTy_iff, noPlace_iff, noRv_iff, noOper_iff, len_nil, Bool.false_eq_true, if_false]
        grind
      · generalize (if t.k = 5 then true else if t.k = 6 then true else decide (t.k = 7)) = c
        cases c <;> simp only [if_true, if_neg h0, if_neg h1, if_neg h2, if_neg h3, if_neg h4, if_neg h8, Bool.and_eq_true, decide_eq_true_eq, noTy_iff, noPlace_iff, noRv_iff, noOper_iff, len_nil, Bool.false_eq_true, if_false] <;> grind

theorem vblock_eq (l : List StmtD) (d : Int) : tValidBlock l d = rValidBlock l d := (vmain _ _).1 l d (Nat.lt_succ_self _) (Nat.lt_succ_self _)
theorem rFields_eq (l : List FieldD) : rValidFields l = l.all fun f => rSmall f.name && rValidTy f.ty 0 := by
  unfold rValidFields
  rw [run_all rValidFields_l2 (fun f => rSmall f.name && rValidTy f.ty 0) (by rw [rValidFields_l2]) (fun x xs => by rw [rValidFields_l2]; cases rSmall x.name <;> cases rValidTy x.ty 0 <;> simp) l, Bool.and_true]
theorem tFields_eq (l : List FieldD) : allField l tValidField = rValidFields l := by
  rw [allField_eq, rFields_eq]
  exact all_same fun x _ => by rw [tValidField, small_eq, vty_eq]
theorem rValid05_eq (s : SourceD) : rValid05 s = ((s.structs.all fun x => rGreat x.name && rValidFields x.fields) && ((s.enums.all fun x => rGreat x.name && x.variants.all fun v => rGreat v.name && (rNoTy v.ty || rValidTy v.ty 0)) &&
    s.fns.all fun x => rSmall x.name && (rValidFields x.params && rValidBlock x.body 1))) := by
  unfold rValid05
  rw [run_all rValid05_l2 (fun x => rGreat x.name && rValidFields x.fields) (by rw [rValid05_l2]) (fun x xs => by rw [rValid05_l2]; cases rGreat x.name <;> cases rValidFields x.fields <;> simp) s.structs]
  rw [run_all rValid05_l7 (fun x => rGreat x.name && x.variants.all fun v => rGreat v.name && (rNoTy v.ty || rValidTy v.ty 0)) (by rw [rValid05_l7]) (fun x xs => by
    rw [rValid05_l7]
    rw [loop_all (r := false) rValid05_l12 (fun v => rGreat v.name && (rNoTy v.ty || rValidTy v.ty 0)) (by rw [rValid05_l12]) (fun v vs => by rw [rValid05_l12]; cases rGreat v.name <;> cases rNoTy v.ty <;> cases rValidTy v.ty 0 <;> simp) x.variants]
    cases rGreat x.name <;> cases (x.variants.all fun v => rGreat v.name && (rNoTy v.ty || rValidTy v.ty 0)) <;> simp [Ctl.bind]) s.enums]
  rw [run_all rValid05_l18 (fun x => rSmall x.name && (rValidFields x.params && rValidBlock x.body 1)) (by rw [rValid05_l18]) (fun x xs => by
    rw [rValid05_l18]; cases rSmall x.name <;> cases rValidFields x.params <;> cases rValidBlock x.body 1 <;> simp) s.fns, Bool.and_true]
theorem valid05_eq (s : SourceD) : tValid05 s = rValid05 s := by
  rw [rValid05_eq, tValid05, allStruct_eq, allEnum_eq, allFn_eq, Bool.and_assoc]
  rw [all_same (l := s.structs) (q := fun x => rGreat x.name && rValidFields x.fields) fun x _ => by rw [tValid_1, great_eq, tFields_eq]]
  rw [all_same (l := s.enums) (q := fun x => rGreat x.name && x.variants.all fun v => rGreat v.name && (rNoTy v.ty || rValidTy v.ty 0)) fun x _ => by
    rw [tValid_2, great_eq, allVariant_eq]
    congr 1
    exact all_same fun v _ => by rw [tValidVariant, great_eq, sameTy_none, vty_eq]]
  rw [all_same (l := s.fns) (q := fun x => rSmall x.name && (rValidFields x.params && rValidBlock x.body 1)) fun x _ => by rw [tValid_3, small_eq, tFields_eq, vblock_eq, Bool.and_assoc]]
end Go.Proofs.Tryz
end
