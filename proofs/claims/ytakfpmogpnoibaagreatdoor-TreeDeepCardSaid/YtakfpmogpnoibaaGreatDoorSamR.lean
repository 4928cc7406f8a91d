/- Contracts of the document's functions that compare two sources. -/
import Derived.Test.YtakfpmogpnoibaaGreatDoorRefA
set_option linter.unusedVariables false
set_option linter.unusedSimpArgs false
set_option linter.constructorNameAsVariable false
section
namespace Go.Proofs.Tryz
open Go Go.AM
set_option maxRecDepth 10000
set_option linter.unusedVariables false
noncomputable section
def rSamePlace_l4 (p1 : PlaceD) : List StepD → Nat → Ctl (Bool) (Unit)
 | [], _ => .go ()
 | x4 :: xs4, j4 => (bnd (p1.path.getD j4 default) fun (y6_8 : StepD) => (if ¬ (x4.field = y6_8.field) then .ret false else rSamePlace_l4 p1 xs4 (j4 + 1)))
def rSamePlace (p0 : PlaceD) (p1 : PlaceD) : Bool :=
 (if (¬ (p0.name = p1.name)) ∨ (¬ ((p0.path.length : Int) = (p1.path.length : Int))) then false else (Ctl.run (rSamePlace_l4 p1 p0.path 0) fun (v4 : Unit) => true))
def rSameOper (p0 : OperD) (p1 : OperD) : Bool :=
 (((rSamePlace p0.p p1.p) && (p0.num == p1.num)) && (decide (p0.n = p1.n)))
def rSameRv_l5 (p1 : RvD) : List OperD → Nat → Ctl (Bool) (Unit)
 | [], _ => .go ()
 | x5 :: xs5, j5 => (bnd (p1.ops.getD j5 default) fun (y7_8 : OperD) => (if ¬ ((rSameOper x5 y7_8) = true) then .ret false else rSameRv_l5 p1 xs5 (j5 + 1)))
def rSameRv (p0 : RvD) (p1 : RvD) : Bool :=
 (if ((((¬ ((rSamePlace p0.p p1.p) = true)) ∨ (¬ (p0.k = p1.k))) ∨ (¬ (p0.name = p1.name))) ∨ (¬ (p0.variant = p1.variant))) ∨ (¬ ((p0.ops.length : Int) = (p1.ops.length : Int))) then false else (Ctl.run (rSameRv_l5 p1 p0.ops 0) fun (v5 : Unit) => true))
def rSameFields_l4 (p1 : List FieldD) : List FieldD → Nat → Ctl (Bool) (Unit)
 | [], _ => .go ()
 | x4 :: xs4, j4 => (bnd (p1.getD j4 default) fun (y6_7 : FieldD) => (if (¬ ((rSameTy x4.ty y6_7.ty) = true)) ∨ (¬ (x4.name = y6_7.name)) then .ret false else rSameFields_l4 p1 xs4 (j4 + 1)))
def rSameFields (p0 : List FieldD) (p1 : List FieldD) : Bool :=
 (if ¬ ((p0.length : Int) = (p1.length : Int)) then false else (Ctl.run (rSameFields_l4 p1 p0 0) fun (v4 : Unit) => true))
def rSameBlock_b_l4 (r_rSameStmt : StmtD → StmtD → Bool) (p1 : List StmtD) : List StmtD → Nat → Ctl (Bool) (Unit)
 | [], _ => .go ()
 | x4 :: xs4, j4 => (bnd (p1.getD j4 default) fun (y6_6 : StmtD) => (if ¬ ((r_rSameStmt x4 y6_6) = true) then .ret false else rSameBlock_b_l4 r_rSameStmt p1 xs4 (j4 + 1)))
def rSameBlock_b (r_rSameBlock : (List StmtD) → (List StmtD) → Bool) (r_rSameStmt : StmtD → StmtD → Bool) (p0 : List StmtD) (p1 : List StmtD) : Bool :=
 (if ¬ ((p0.length : Int) = (p1.length : Int)) then false else (Ctl.run (rSameBlock_b_l4 r_rSameStmt p1 p0 0) fun (v4 : Unit) => true))
def rSameStmt_b_l7 (r_rSameBlock : (List StmtD) → (List StmtD) → Bool) (p1 : StmtD) : List ArmD → Nat → Ctl (Bool) (Unit)
 | [], _ => .go ()
 | x7 :: xs7, j7 => (bnd (p1.arms.getD j7 default) fun (y9_9 : ArmD) => (if ((¬ ((r_rSameBlock x7.body y9_9.body) = true)) ∨ (¬ (x7.variant = y9_9.variant))) ∨ (¬ (x7.bind = y9_9.bind)) then .ret false else rSameStmt_b_l7 r_rSameBlock p1 xs7 (j7 + 1)))
def rSameStmt_b (r_rSameBlock : (List StmtD) → (List StmtD) → Bool) (r_rSameStmt : StmtD → StmtD → Bool) (p0 : StmtD) (p1 : StmtD) : Bool :=
 (if (((((¬ (((rSameTy p0.ty p1.ty) = true) ∧ ((rSamePlace p0.p p1.p) = true))) ∨ (¬ (((rSameRv p0.rv p1.rv) = true) ∧ ((rSameOper p0.op p1.op) = true)))) ∨ (¬ (((r_rSameBlock p0.then_ p1.then_) = true) ∧ ((r_rSameBlock p0.else_ p1.else_) = true)))) ∨ (¬ (p0.k = p1.k))) ∨ (¬ (p0.name = p1.name))) ∨ (¬ ((p0.arms.length : Int) = (p1.arms.length : Int))) then false else (Ctl.run (rSameStmt_b_l7 r_rSameBlock p1 p0.arms 0) fun (v7 : Unit) => true))
mutual
def rSameBlock_f : Nat → (List StmtD) → (List StmtD) → Bool
 | 0, _, _ => default
 | k + 1, p0, p1 => rSameBlock_b (rSameBlock_f k) (rSameStmt_f k) p0 p1
def rSameStmt_f : Nat → StmtD → StmtD → Bool
 | 0, _, _ => default
 | k + 1, p0, p1 => rSameStmt_b (rSameBlock_f k) (rSameStmt_f k) p0 p1
end
def rSameBlock (p0 : List StmtD) (p1 : List StmtD) : Bool := rSameBlock_f (SizeOf.sizeOf p0 + 1) p0 p1
def rSameStmt (p0 : StmtD) (p1 : StmtD) : Bool := rSameStmt_f (SizeOf.sizeOf p0 + 1) p0 p1
def rSame_l4 (p1 : SourceD) : List StructD → Nat → Ctl (Bool) (Unit)
 | [], _ => .go ()
 | x4 :: xs4, j4 => (bnd (p1.structs.getD j4 default) fun (y6_9 : StructD) => (if ((¬ ((rSameFields x4.fields y6_9.fields) = true)) ∨ (¬ (x4.name = y6_9.name))) ∨ (¬ ((x4.drop_ == y6_9.drop_) = true)) then .ret false else rSame_l4 p1 xs4 (j4 + 1)))
def rSame_l17 (y13_3 : EnumD) : List VariantD → Nat → Ctl (Bool) (Unit)
 | [], _ => .go ()
 | x17 :: xs17, j17 => (bnd (y13_3.variants.getD j17 default) fun (y19_9 : VariantD) => (if (¬ ((rSameTy x17.ty y19_9.ty) = true)) ∨ (¬ (x17.name = y19_9.name)) then .ret false else rSame_l17 y13_3 xs17 (j17 + 1)))
def rSame_l10 (p1 : SourceD) : List EnumD → Nat → Ctl (Bool) (Unit)
 | [], _ => .go ()
 | x10 :: xs10, j10 => (bnd (p1.enums.getD j10 default) fun (y13_3 : EnumD) => (if (¬ (x10.name = y13_3.name)) ∨ (¬ ((x10.variants.length : Int) = (y13_3.variants.length : Int))) then .ret false else (Ctl.bind (rSame_l17 y13_3 x10.variants 0) fun (v17 : Unit) => rSame_l10 p1 xs10 (j10 + 1))))
def rSame_l23 (p1 : SourceD) : List FnD → Nat → Ctl (Bool) (Unit)
 | [], _ => .go ()
 | x23 :: xs23, j23 => (bnd (p1.fns.getD j23 default) fun (y25_9 : FnD) => (if ((¬ ((rSameFields x23.params y25_9.params) = true)) ∨ (¬ ((rSameBlock x23.body y25_9.body) = true))) ∨ (¬ (x23.name = y25_9.name)) then .ret false else rSame_l23 p1 xs23 (j23 + 1)))
def rSame (p0 : SourceD) (p1 : SourceD) : Bool :=
 (if ((¬ ((p0.structs.length : Int) = (p1.structs.length : Int))) ∨ (¬ ((p0.enums.length : Int) = (p1.enums.length : Int)))) ∨ (¬ ((p0.fns.length : Int) = (p1.fns.length : Int))) then false else (Ctl.run (rSame_l4 p1 p0.structs 0) fun (v4 : Unit) => (Ctl.run (rSame_l10 p1 p0.enums 0) fun (v10 : Unit) => (Ctl.run (rSame_l23 p1 p0.fns 0) fun (v23 : Unit) => true))))
end
end Go.Proofs.Tryz
end
