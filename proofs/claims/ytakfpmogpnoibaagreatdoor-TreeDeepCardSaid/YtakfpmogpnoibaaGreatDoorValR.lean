/- What the document says of statements that could have been read. -/
import Derived.Test.YtakfpmogpnoibaaGreatDoorNamB
set_option linter.unusedVariables false
set_option linter.unusedSimpArgs false
set_option linter.constructorNameAsVariable false
section
namespace Go.Proofs.Tryz
open Go Go.AM
set_option maxRecDepth 10000
set_option linter.unusedVariables false
noncomputable section
def rValidBlock_b_l4 (r_rValidStmt : StmtD → Int → Bool) (p1 : Int) : List StmtD → Ctl (Bool) (Unit)
 | [] => .go ()
 | x4 :: xs4 => (if ¬ ((r_rValidStmt x4 p1) = true) then .ret false else rValidBlock_b_l4 r_rValidStmt p1 xs4)
def rValidBlock_b (r_rValidBlock : (List StmtD) → Int → Bool) (r_rValidStmt : StmtD → Int → Bool) (p0 : List StmtD) (p1 : Int) : Bool :=
 (if 60 < p1 then false else (Ctl.run (rValidBlock_b_l4 r_rValidStmt p1 p0) fun (v4 : Unit) => true))
def rValidStmt_b_l21 (r_rValidBlock : (List StmtD) → Int → Bool) (p1 : Int) : List ArmD → Ctl (Bool) (Unit)
 | [] => .go ()
 | x21 :: xs21 => (if ((¬ ((rGreat x21.variant) = true)) ∨ ((¬ (x21.bind = ([] : List UInt8))) ∧ (¬ ((rSmall x21.bind) = true)))) ∨ (¬ ((r_rValidBlock x21.body (IntKind.i64.wrap (p1 + 1))) = true)) then .ret false else rValidStmt_b_l21 r_rValidBlock p1 xs21)
def rValidStmt_b (r_rValidBlock : (List StmtD) → Int → Bool) (r_rValidStmt : StmtD → Int → Bool) (p0 : StmtD) (p1 : Int) : Bool :=
 (if p0.k = 0 then ((((((((rSmall p0.name) && (rValidTy p0.ty 0)) && (rValidRv p0.rv)) && (rNoPlace p0.p)) && (rNoOper p0.op)) && (decide ((p0.then_.length : Int) = 0))) && (decide ((p0.else_.length : Int) = 0))) && (decide ((p0.arms.length : Int) = 0))) else (if p0.k = 1 then ((((((((decide (p0.name = ([] : List UInt8))) && (rNoTy p0.ty)) && (rValidPlace p0.p false)) && (rValidRv p0.rv)) && (rNoOper p0.op)) && (decide ((p0.then_.length : Int) = 0))) && (decide ((p0.else_.length : Int) = 0))) && (decide ((p0.arms.length : Int) = 0))) else (if p0.k = 2 then ((((((((decide (p0.name = ([] : List UInt8))) && (rNoTy p0.ty)) && (rNoPlace p0.p)) && (rNoRv p0.rv)) && (rValidOper p0.op)) && (r_rValidBlock p0.then_ (IntKind.i64.wrap (p1 + 1)))) && (r_rValidBlock p0.else_ (IntKind.i64.wrap (p1 + 1)))) && (decide ((p0.arms.length : Int) = 0))) else (if p0.k = 3 then ((((((((decide (p0.name = ([] : List UInt8))) && (rNoTy p0.ty)) && (rNoPlace p0.p)) && (rNoRv p0.rv)) && (rValidOper p0.op)) && (r_rValidBlock p0.then_ (IntKind.i64.wrap (p1 + 1)))) && (decide ((p0.else_.length : Int) = 0))) && (decide ((p0.arms.length : Int) = 0))) else (if p0.k = 4 then (if (((((¬ ((p0.name = ([] : List UInt8)) ∧ ((rNoTy p0.ty) = true))) ∨ (¬ ((rValidPlace p0.p true) = true))) ∨ (¬ ((rNoRv p0.rv) = true))) ∨ (¬ ((rNoOper p0.op) = true))) ∨ (¬ ((p0.then_.length : Int) = 0))) ∨ (¬ ((p0.else_.length : Int) = 0)) then false else (Ctl.run (rValidStmt_b_l21 r_rValidBlock p1 p0.arms) fun (v21 : Unit) => true)) else (bnd (if p0.k = 5 then true else (if p0.k = 6 then true else (decide (p0.k = 7)))) fun (v28 : Bool) => (if v28 = true then ((((((((decide (p0.name = ([] : List UInt8))) && (rNoTy p0.ty)) && (rNoPlace p0.p)) && (rNoRv p0.rv)) && (rValidOper p0.op)) && (decide ((p0.then_.length : Int) = 0))) && (decide ((p0.else_.length : Int) = 0))) && (decide ((p0.arms.length : Int) = 0))) else (if p0.k = 8 then ((((((((decide (p0.name = ([] : List UInt8))) && (rNoTy p0.ty)) && (rValidPlace p0.p true)) && (rNoRv p0.rv)) && (rNoOper p0.op)) && (decide ((p0.then_.length : Int) = 0))) && (decide ((p0.else_.length : Int) = 0))) && (decide ((p0.arms.length : Int) = 0))) else false))))))))
mutual
def rValidBlock_f : Nat → (List StmtD) → Int → Bool
 | 0, _, _ => default
 | k + 1, p0, p1 => rValidBlock_b (rValidBlock_f k) (rValidStmt_f k) p0 p1
def rValidStmt_f : Nat → StmtD → Int → Bool
 | 0, _, _ => default
 | k + 1, p0, p1 => rValidStmt_b (rValidBlock_f k) (rValidStmt_f k) p0 p1
end
def rValidBlock (p0 : List StmtD) (p1 : Int) : Bool := rValidBlock_f (SizeOf.sizeOf p0 + 1) p0 p1
def rValidStmt (p0 : StmtD) (p1 : Int) : Bool := rValidStmt_f (SizeOf.sizeOf p0 + 1) p0 p1
def rValidFields_l2  : List FieldD → Ctl (Bool) (Unit)
 | [] => .go ()
 | x2 :: xs2 => (if (¬ ((rSmall x2.name) = true)) ∨ (¬ ((rValidTy x2.ty 0) = true)) then .ret false else rValidFields_l2 xs2)
def rValidFields (p0 : List FieldD) : Bool :=
 (Ctl.run (rValidFields_l2 p0) fun (v2 : Unit) => true)
def rValid05_l2  : List StructD → Ctl (Bool) (Unit)
 | [] => .go ()
 | x2 :: xs2 => (if (¬ ((rGreat x2.name) = true)) ∨ (¬ ((rValidFields x2.fields) = true)) then .ret false else rValid05_l2 xs2)
def rValid05_l12  : List VariantD → Ctl (Bool) (Unit)
 | [] => .go ()
 | x12 :: xs12 => (if (¬ ((rGreat x12.name) = true)) ∨ ((¬ ((rNoTy x12.ty) = true)) ∧ (¬ ((rValidTy x12.ty 0) = true))) then .ret false else rValid05_l12 xs12)
def rValid05_l7  : List EnumD → Ctl (Bool) (Unit)
 | [] => .go ()
 | x7 :: xs7 => (if ¬ ((rGreat x7.name) = true) then .ret false else (Ctl.bind (rValid05_l12 x7.variants) fun (v12 : Unit) => rValid05_l7 xs7))
def rValid05_l18  : List FnD → Ctl (Bool) (Unit)
 | [] => .go ()
 | x18 :: xs18 => (if ((¬ ((rSmall x18.name) = true)) ∨ (¬ ((rValidFields x18.params) = true))) ∨ (¬ ((rValidBlock x18.body 1) = true)) then .ret false else rValid05_l18 xs18)
def rValid05 (p0 : SourceD) : Bool :=
 (Ctl.run (rValid05_l2 p0.structs) fun (v2 : Unit) => (Ctl.run (rValid05_l7 p0.enums) fun (v7 : Unit) => (Ctl.run (rValid05_l18 p0.fns) fun (v18 : Unit) => true)))
end
end Go.Proofs.Tryz
end
