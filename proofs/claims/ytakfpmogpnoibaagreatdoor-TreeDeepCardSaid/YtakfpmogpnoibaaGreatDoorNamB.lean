/- Contracts of the document's functions over types, places, operands, and what is set. -/
import Derived.Test.YtakfpmogpnoibaaGreatDoorNamA
set_option linter.unusedVariables false
set_option linter.unusedSimpArgs false
set_option linter.constructorNameAsVariable false
section
namespace Go.Proofs.Tryz
open Go Go.AM
set_option maxRecDepth 10000
set_option linter.unusedVariables false
noncomputable section
def rGreat (p0 : List UInt8) : Bool :=
 ((rUpper p0) && (!(rReserved p0)))
def rSmall (p0 : List UInt8) : Bool :=
 (((rWord p0) && (!(rUpper p0))) && (!(rReserved p0)))
def rValidTy_b (r_rValidTy : TyD → Int → Bool) (p0 : TyD) (p1 : Int) : Bool :=
 (if p0.k = 1 then ((decide (p0.name = ([] : List UInt8))) && (decide ((p0.l.length : Int) = 0))) else (if p0.k = 2 then ((rGreat p0.name) && (decide ((p0.l.length : Int) = 0))) else (if p0.k = 7 then ((rSmall p0.name) && (decide ((p0.l.length : Int) = 0))) else (if p0.k = 4 then (bnd (p0.l.getD 0 default) fun (y11_16 : TyD) => ((((decide (p1 < 60)) && (decide (p0.name = ([] : List UInt8)))) && (decide ((p0.l.length : Int) = 1))) && (r_rValidTy y11_16 (IntKind.i64.wrap (p1 + 1))))) else (if p0.k = 5 then (bnd (p0.l.getD 0 default) fun (y11_16 : TyD) => ((((decide (p1 < 60)) && (decide (p0.name = ([] : List UInt8)))) && (decide ((p0.l.length : Int) = 1))) && (r_rValidTy y11_16 (IntKind.i64.wrap (p1 + 1))))) else (if p0.k = 6 then (bnd (p0.l.getD 0 default) fun (y11_16 : TyD) => ((((decide (p1 < 60)) && (decide (p0.name = ([] : List UInt8)))) && (decide ((p0.l.length : Int) = 1))) && (r_rValidTy y11_16 (IntKind.i64.wrap (p1 + 1))))) else false))))))
def rValidTy_f : Nat → TyD → Int → Bool
 | 0, _, _ => default
 | k + 1, p0, p1 => rValidTy_b (rValidTy_f k) p0 p1
def rValidTy (p0 : TyD) (p1 : Int) : Bool := rValidTy_f (SizeOf.sizeOf p0 + 1) p0 p1
def rValidPlace_l4  : List StepD → Ctl (Bool) (Unit)
 | [] => .go ()
 | x4 :: xs4 => (if (¬ (x4.field = ([] : List UInt8))) ∧ (¬ ((rSmall x4.field) = true)) then .ret false else rValidPlace_l4 xs4)
def rValidPlace (p0 : PlaceD) (p1 : Bool) : Bool :=
 (if (¬ ((rSmall p0.name) = true)) ∨ ((p1 = true) ∧ (0 < (p0.path.length : Int))) then false else (Ctl.run (rValidPlace_l4 p0.path) fun (v4 : Unit) => true))
def rNoPlace (p0 : PlaceD) : Bool :=
 ((decide (p0.name = ([] : List UInt8))) && (decide ((p0.path.length : Int) = 0)))
def rValidOper (p0 : OperD) : Bool :=
 (if p0.num = true then ((rNoPlace p0.p) && (!(decide (p0.n = (-9223372036854775808))))) else ((decide (p0.n = 0)) && (rValidPlace p0.p false)))
def rNoOper (p0 : OperD) : Bool :=
 (((!p0.num) && (decide (p0.n = 0))) && (rNoPlace p0.p))
def rNoTy (p0 : TyD) : Bool :=
 (((decide (p0.k = 0)) && (decide (p0.name = ([] : List UInt8)))) && (decide ((p0.l.length : Int) = 0)))
def rNoRv (p0 : RvD) : Bool :=
 (((((decide (p0.k = 0)) && (decide ((p0.ops.length : Int) = 0))) && (rNoPlace p0.p)) && (decide (p0.name = ([] : List UInt8)))) && (decide (p0.variant = ([] : List UInt8))))
def rValidRv_l2  : List OperD → Ctl (Bool) (Unit)
 | [] => .go ()
 | x2 :: xs2 => (if ¬ ((rValidOper x2) = true) then .ret false else rValidRv_l2 xs2)
def rValidRv (p0 : RvD) : Bool :=
 (Ctl.run (rValidRv_l2 p0.ops) fun (v2 : Unit) => (bnd (if p0.k = 0 then true else (if p0.k = 8 then true else (decide (p0.k = 15)))) fun (v11 : Bool) => (if v11 = true then ((((decide (p0.name = ([] : List UInt8))) && (decide (p0.variant = ([] : List UInt8)))) && (decide ((p0.ops.length : Int) = 1))) && (rNoPlace p0.p)) else (bnd (if p0.k = 1 then true else (if p0.k = 2 then true else (if p0.k = 3 then true else (if p0.k = 4 then true else (decide (p0.k = 5)))))) fun (v15 : Bool) => (if v15 = true then ((((decide (p0.name = ([] : List UInt8))) && (decide (p0.variant = ([] : List UInt8)))) && (decide ((p0.ops.length : Int) = 2))) && (rNoPlace p0.p)) else (bnd (if p0.k = 6 then true else (decide (p0.k = 7))) fun (v21 : Bool) => (if v21 = true then ((((decide (p0.name = ([] : List UInt8))) && (decide (p0.variant = ([] : List UInt8)))) && (decide ((p0.ops.length : Int) = 0))) && (rValidPlace p0.p false)) else (bnd (if p0.k = 9 then true else (if p0.k = 13 then true else (decide (p0.k = 14)))) fun (v24 : Bool) => (if v24 = true then ((((decide (p0.name = ([] : List UInt8))) && (decide (p0.variant = ([] : List UInt8)))) && (decide ((p0.ops.length : Int) = 0))) && (rValidPlace p0.p true)) else (if p0.k = 10 then (((rGreat p0.name) && (decide (p0.variant = ([] : List UInt8)))) && (rNoPlace p0.p)) else (if p0.k = 11 then ((((rGreat p0.name) && (rGreat p0.variant)) && (decide ((p0.ops.length : Int) ≤ 1))) && (rNoPlace p0.p)) else (if p0.k = 12 then (((rSmall p0.name) && (decide (p0.variant = ([] : List UInt8)))) && (rNoPlace p0.p)) else false))))))))))))
end
end Go.Proofs.Tryz
end
