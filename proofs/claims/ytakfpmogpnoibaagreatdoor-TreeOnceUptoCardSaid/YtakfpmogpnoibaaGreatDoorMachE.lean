/- The rules by which simp reckons with the abstract machine. -/
import Derived.Test.YtakfpmogpnoibaaGreatDoorMachC
set_option linter.unusedVariables false
set_option linter.unusedSimpArgs false
set_option linter.constructorNameAsVariable false
section
namespace Go.AM
open Go

section
variable {P : Program} {T : Tab} {k : Nat} {K : Exit → St → Prop} {N : St → Prop}

@[congr] theorem EV_congr {c : Code} {σ σ' : St} (h : σ = σ') : EV P k c σ K = EV P k c σ' K := by rw [h]
@[congr] theorem thenK_congr {e e' : Exit} {σ σ' : St} (he : e = e') (h : σ = σ') : thenK N K e σ = thenK N K e' σ' := by rw [he, h]
@[congr] theorem blockK_congr {id : Nat} {e e' : Exit} {σ σ' : St} (he : e = e') (h : σ = σ') : blockK id K e σ = blockK id K e' σ' := by rw [he, h]
@[congr] theorem scopeK_congr {e e' : Exit} {σ σ' : St} (he : e = e') (h : σ = σ') : scopeK K e σ = scopeK K e' σ' := by rw [he, h]
@[congr] theorem bodyK_congr {rs : List ResultVar} {r : V} {obs : List Ob} {e e' : Exit} {σ σ' : St} (he : e = e') (h : σ = σ') : bodyK T k rs r obs e σ = bodyK T k rs r obs e' σ' := by rw [he, h]
@[congr] theorem wpS_congr {ops : Array Oper} {d : Bool} {os : List Oper} {σ σ' : St} {tr tr' : List (List Nat × List Nat)} {C : St → List (List Nat × List Nat) → Prop} (h : σ = σ') (ht : tr = tr') :
  wpS P T ops d os σ tr C = wpS P T ops d os σ' tr' C := by rw [h, ht]

@[simp] theorem thenK_normal {σ : St} : thenK N K .normal σ = N σ := rfl
@[simp] theorem thenK_ret {σ : St} : thenK N K .ret σ = K .ret σ := rfl
@[simp] theorem thenK_exit {σ : St} {i : Nat} : thenK N K (.exit i) σ = K (.exit i) σ := rfl
@[simp] theorem blockK_normal {id : Nat} {σ : St} : blockK id K .normal σ = K .normal σ := rfl
@[simp] theorem blockK_ret {id : Nat} {σ : St} : blockK id K .ret σ = K .ret σ := rfl
@[simp] theorem blockK_exit {id i : Nat} {σ : St} : blockK id K (.exit i) σ = if i = id then K .normal σ else K (.exit i) σ := rfl
@[simp] theorem scopeK_normal {σ : St} : scopeK K .normal σ = K .normal σ := rfl
@[simp] theorem scopeK_ret {σ : St} : scopeK K .ret σ = K .ret σ := rfl
@[simp] theorem scopeK_exit {σ : St} {i : Nat} : scopeK K (.exit i) σ = K (.exit i) σ := rfl
@[simp] theorem bodyK_normal {rs : List ResultVar} {r : V} {obs : List Ob} {σ : St} : bodyK T k rs r obs .normal σ = Fin T k rs r obs σ := rfl
@[simp] theorem bodyK_ret {rs : List ResultVar} {r : V} {obs : List Ob} {σ : St} : bodyK T k rs r obs .ret σ = Fin T k rs r obs σ := rfl

def contS (P : Program) (T : Tab) (ops : Array Oper) (d : Bool) (os : List Oper) (dst : Option Nat) (tc : List Nat) (σ : St) (tr : List (List Nat × List Nat)) (C : St → List (List Nat × List Nat) → Prop) : Option (V × List (Nat × Ob)) → Prop
 | some (v, upd) => wpS P T ops d os (St.put { σ with h := updL σ.h upd } dst v) (if d then tr ++ [(tc, upd.map (·.1))] else []) C
 | none => False

@[congr] theorem contS_congr {ops : Array Oper} {d : Bool} {os : List Oper} {dst : Option Nat} {tc tc' : List Nat} {σ : St} {tr tr' : List (List Nat × List Nat)} {C : St → List (List Nat × List Nat) → Prop} {x x' : Option (V × List (Nat × Ob))}
  (ht : tc = tc') (hr : tr = tr') (h : x = x') : contS P T ops d os dst tc σ tr C x = contS P T ops d os dst tc' σ tr' C x' := by rw [ht, hr, h]

def callS (P : Program) (T : Tab) (ops : Array Oper) (d : Bool) (os : List Oper) (dst : Option Nat) (op : Op) (σ : St) (tr : List (List Nat × List Nat)) (C : St → List (List Nat × List Nat) → Prop) : Prop :=
 ∃ v upd tc, OpR P T op σ.ev σ.lk σ.h.length v upd tc ∧ contS P T ops d os dst tc σ tr C (some (v, upd))

@[congr] theorem callS_congr {ops : Array Oper} {d : Bool} {os : List Oper} {dst : Option Nat} {op : Op} {σ σ' : St} {tr tr' : List (List Nat × List Nat)} {C : St → List (List Nat × List Nat) → Prop} (h : σ = σ') (ht : tr = tr') :
  callS P T ops d os dst op σ tr C = callS P T ops d os dst op σ' tr' C := by rw [h, ht]

end

end Go.AM
end
section
namespace Go.AM
open Go

section
variable {T : Tab} {k : Nat} {rs : List ResultVar} {σ : St}

theorem retV_ren {lk : Nat → Ob} {sel : List Nat} (x : V) : RetV lk sel x (ren (toIdx sel) x) := by
 cases x with
 | tup cs =>
  refine .inr ⟨cs, cs.map (ren1 (toIdx sel)), rfl, rfl, by simp, fun j a b ha hb => ?_⟩
  rw [List.getElem?_map, ha] at hb
  exact .inl (Option.some.inj hb).symm
 | _ => exact .inl (.inl rfl)

def finS (T : Tab) (σ : St) (rs : List ResultVar) (C : V → Prop) : Prop := match resL T σ rs with
 | some l => C (packV l)
 | none => False

theorem finS_inv {C : V → Prop} (h : finS T σ rs C) : ∃ l, resL T σ rs = some l ∧ C (packV l) := by
 unfold finS at h
 split at h
 ·exact ⟨_, by assumption, h⟩
 ·exact h.elim

theorem Fin.pure0 {r : V} (h : finS T σ rs fun x => ren (fun _ => none) x = r) : Fin T 0 rs r [] σ := by
 obtain ⟨l, h1, h2⟩ := finS_inv h
 refine ⟨[], l, List.nodup_nil, by simp, rfl, h1, ?_⟩
 subst h2
 have : toIdx ([] : List Nat) = fun _ => none := rfl
 have h3 := retV_ren (lk := fun o => σ.h.getD o .unborn) (sel := []) (packV l)
 rw [this] at h3
 exact h3

theorem Fin.plain {r : V} {objs' : List Ob} (h : finS T σ rs fun x => ren (toIdx (List.range k)) x = r) (ho : passed σ.h (List.range k) = objs') : Fin T k rs r objs' σ := by
 obtain ⟨l, h1, h2⟩ := finS_inv h
 refine ⟨[], l, List.nodup_nil, by simp, by rw [List.append_nil]; exact ho.symm, h1, ?_⟩
 subst h2
 rw [List.append_nil]
 exact retV_ren _

def roOf (k : Nat) (lk : Nat → Ob) (sz : Nat) : V → Option (List (List V))
 | .c (.slice none 0 0) => some []
 | .z => some []
 | .sl o ep off n => match lk o with
  | .arr ep' sz' es => if k ≤ o ∧ ep' = ep ∧ sz' = sz ∧ off + n ≤ es.length then some ((es.drop off).take n) else none
  | _ => none
 | _ => none

theorem Fin.ro {sz : Nat} {es : List (List V)} {objs' : List Ob} (h : finS T σ rs fun x => roOf k (fun o => σ.h.getD o .unborn) sz x = some es) (hsz : ∀ x ∈ es, x.length = sz) (hp : ∀ x ∈ es, ∀ y ∈ x, Pu y) (ho : passed σ.h (List.range k) = objs') :
  Fin T k rs (.ro sz es) objs' σ := by
 obtain ⟨l, h1, h2⟩ := finS_inv h
 refine ⟨[], l, List.nodup_nil, by simp, by rw [List.append_nil]; exact ho.symm, h1, ?_⟩
 rw [List.append_nil]
 refine .inl (.inr (.inl ?_))
 generalize packV l = x at h2
 unfold roOf at h2
 split at h2
 ·obtain rfl := Option.some.inj h2; exact .nil sz
 ·obtain rfl := Option.some.inj h2; exact .z sz
 ·rename_i o ep off n
  split at h2
  ·rename_i ep' sz' es' hl
   split at h2
   ·rename_i hc
    obtain ⟨hko, rfl, rfl, hle⟩ := hc
    obtain rfl := Option.some.inj h2
    have hget : ∀ (i j : Nat) (y : V), (((es'.drop off).take n)[i]?).bind (fun l => l[j]?) = some y → (es'[off + i]?).bind (fun l => l[j]?) = some y := by
     intro i j y hy
     rw [List.getElem?_take] at hy
     split at hy
     ·rwa [List.getElem?_drop] at hy
     ·cases hy
    refine .sl (fun i j => (((es'.drop off).take n)[i]?).bind (fun l => l[j]?) |>.getD .junk) (by simp; omega) hl hle (by simp; omega) hsz (fun i j y hy => by rw [hy]; exact hget i j y hy) (fun i j y hy => ?_)
    rw [hy]
    refine .pu ?_
    cases hq : ((es'.drop off).take n)[i]? with
    | none => rw [hq] at hy; cases hy
    | some l =>
     rw [hq] at hy
     exact hp l (List.mem_of_getElem? hq) y (List.mem_of_getElem? (show l[j]? = some y from hy))
   ·cases h2
  ·cases h2
 ·cases h2

end

end Go.AM
end
section
namespace Go.AM
open Go

def condT (σ : St) (d : Nat) (A B : St → Prop) : V → Prop
 | .b t => (t = true → A ⟨σ.t.set d (.b true), σ.h⟩) ∧ (t = false → B ⟨σ.t.set d (.b false), σ.h⟩)
 | _ => False

@[congr] theorem condT_congr {σ : St} {d : Nat} {A B : St → Prop} {v v' : V} (h : v = v') : condT σ d A B v = condT σ d A B v' := by rw [h]

theorem condT_true {σ : St} {d : Nat} {A B : St → Prop} : condT σ d A B (.b true) = A ⟨σ.t.set d (.b true), σ.h⟩ := by simp [condT]
theorem condT_false {σ : St} {d : Nat} {A B : St → Prop} : condT σ d A B (.b false) = B ⟨σ.t.set d (.b false), σ.h⟩ := by simp [condT]
theorem condT_intro {σ : St} {d : Nat} {A B : St → Prop} {t : Bool} (h1 : t = true → A ⟨σ.t.set d (.b true), σ.h⟩) (h2 : t = false → B ⟨σ.t.set d (.b false), σ.h⟩) : condT σ d A B (.b t) := ⟨h1, h2⟩

theorem set_same {l : List V} {d : Nat} {x : V} (h : l.getD d .junk = x) (hx : x ≠ .junk) : l.set d x = l := by
 refine List.ext_getElem? fun j => ?_
 rw [List.getElem?_set]
 split
 ·rename_i hj
  subst hj
  rw [List.getD_eq_getElem?_getD] at h
  cases hq : l[d]? with
  | none => rw [hq] at h; exact absurd h.symm hx
  | some y =>
   rw [hq] at h
   obtain rfl : y = x := h
   rw [if_pos (List.getElem?_eq_some_iff.1 hq).1]
 ·rfl

theorem EV.condT {P : Program} {k : Nat} {K : Exit → St → Prop} {σ : St} {d : Nat} {x y : Code} (h : AM.condT σ d (fun s => EV P k x s K) (fun s => EV P k y s K) (σ.t.getD d .junk)) : EV P k (.cond (.tmp d) x y) σ K := by
 unfold AM.condT at h
 split at h
 ·rename_i t ht
  have hs : ∀ b, t = b → (⟨σ.t.set d (.b b), σ.h⟩ : St) = σ := fun b hb => by
   rw [set_same (x := .b b) (by rw [← hb]; exact ht) (by simp)]
  refine EV.cond (t := t) ht (fun h1 => ?_) (fun h1 => ?_)
  ·have := h.1 h1; rwa [hs _ h1] at this
  ·have := h.2 h1; rwa [hs _ h1] at this
 ·exact h.elim

end Go.AM
end
section
namespace Go.AM
open Go

theorem toIdx_range (n o : Nat) : toIdx (List.range n) o = if o < n then some o else none := by
 split
 ·exact toIdx_of List.nodup_range (by rw [List.getElem?_range (by assumption)])
 ·cases hq : toIdx (List.range n) o with
  | none => rfl
  | some i =>
   have := toIdx_some hq
   have hi : i < n := by
    rcases Nat.lt_or_ge i n with h | h
    ·exact h
    ·rw [List.getElem?_eq_none (by simpa using h)] at this; cases this
   rw [List.getElem?_range hi] at this
   cases this
   omega

section
variable {P : Program} {T : Tab}

theorem callS_data {ops : Array Oper} {d : Bool} {os : List Oper} {dst : Option Nat} {c : Call} {fo : Operand} {f : FuncId} {cap : List V} {σ : St} {tr : List (List Nat × List Nat)} {args' : List V} {r : V} {C : St → List (List Nat × List Nat) → Prop}
  (hc : c.callee = .value fo) (hf : σ.ev fo = .fn f cap) (qc : QC P f args' [] r []) (ha : (c.args.toList.map σ.ev ++ cap).map (ren fun _ => none) = args')
  (h : contS P T ops d os dst [] σ tr C (some (ren (fun _ => none) r, []))) : callS P T ops d os dst (.call c) σ tr C := by
 have hk : (fun i : Nat => (keys ([] : List Nat) σ.h.length ([] : List Ob).length)[i]?) = fun _ => (none : Option Nat) := by
  funext i; simp [keys]
 have h1 : OpR P T (.call c) σ.ev σ.lk σ.h.length (ren (fun i => (keys ([] : List Nat) σ.h.length ([] : List Ob).length)[i]?) r) (callUpd (keys ([] : List Nat) σ.h.length ([] : List Ob).length) []) ([] ++ []) := by
  refine .call rfl hc (.inl ⟨hf, rfl⟩) (args' := args') { nodup := List.nodup_nil, disj := by simp, len := by rw [← ha]; simp, args := ?_, qc := qc, view := .inl rfl, more := Nat.le_refl _, low := by simp, fresh := by simp }
  intro j x x' hx hx'
  rw [← ha, List.getElem?_map, hx] at hx'
  exact .inl (Option.some.inj hx').symm
 rw [hk] at h1
 exact ⟨_, _, _, h1, by simpa [callUpd, keys] using h⟩

theorem callS_fun {ops : Array Oper} {d : Bool} {os : List Oper} {dst : Option Nat} {as : Array Operand} {tys : Array TypeId} {f : FuncId} {σ : St} {tr : List (List Nat × List Nat)} {args' : List V} {r : V} {C : St → List (List Nat × List Nat) → Prop}
  (qc : QC P f args' [] r []) (ha : (as.toList.map σ.ev).map (ren fun _ => none) = args')
  (h : contS P T ops d os dst [] σ tr C (some (ren (fun _ => none) r, []))) : callS P T ops d os dst (.call ⟨.value (.func f), as, tys⟩) σ tr C :=
 callS_data (fo := .func f) (cap := []) rfl rfl qc (by rw [List.append_nil]; exact ha) h

end

def Back {α : Type} (k : Nat) (I : α → St) (μ : α → Nat) (x : α) (σ : St) : Prop := ∃ y, μ y < μ x ∧ Sub k σ (I y)

@[congr] theorem Back_congr {α : Type} {k : Nat} {I : α → St} {μ : α → Nat} {x : α} {σ σ' : St} (h : σ = σ') : Back k I μ x σ = Back k I μ x σ' := by rw [h]

theorem EV.loopB {α : Type} {P : Program} {k : Nat} {K : Exit → St → Prop} {σ : St} (I : α → St) (μ : α → Nat) (x₀ : α) {c : Code} (h₀ : Sub k σ (I x₀))
  (round : ∀ x, EV P k c (I x) (thenK (Back k I μ x) K)) : EV P k (.loop c) σ K := EV.loop I μ x₀ h₀ round

theorem take_len_map {α β : Type} (f : α → β) (l : List α) : List.take l.length (List.map f l) = List.map f l := by
 rw [List.take_of_length_le (by simp)]

theorem wrap_in (n : Int) (h1 : -9223372036854775808 ≤ n) (h2 : n ≤ 9223372036854775807) : IntKind.i64.wrap n = n := by
 rw [IntKind.wrap_i64]; omega

theorem room_of {n b : Nat} (h : n ≤ 1000000) (hb : b ≤ 1000) : roomFor n b := by
 refine ⟨by omega, ?_⟩
 calc n * b ≤ 1000000 * 1000 := Nat.mul_le_mul h hb
  _ ≤ _ := by decide

end Go.AM
end
section
namespace Go.AM
open Go

def optV (c : Bool) (v : V) : V := if c = true then v else .tup []
@[congr] theorem optV_congr {c c' : Bool} {v v' : V} (h : c = c') (hv : c' = true → v = v') : optV c v = optV c' v' := by
 subst h
 unfold optV
 split
 ·exact hv (by assumption)
 ·rfl
@[simp] theorem optV_true {v : V} : optV true v = v := rfl
@[simp] theorem optV_false {v : V} : optV false v = .tup [] := rfl

def impG (c : Bool) (Q : Prop) : Prop := c = true → Q
@[congr] theorem impG_congr {c c' : Bool} {Q Q' : Prop} (h : c = c') (hq : c' = true → Q = Q') : impG c Q = impG c' Q' := by
 subst h
 unfold impG
 exact propext ⟨fun k hc => (hq hc) ▸ k hc, fun k hc => (hq hc) ▸ k hc⟩
@[simp] theorem impG_true {Q : Prop} : impG true Q = Q := by simp [impG]
@[simp] theorem impG_false {Q : Prop} : impG false Q = True := by simp [impG]
@[simp] theorem impG_yes {c : Bool} : impG c True = True := by simp [impG]

def bOf : V → Bool
 | .b q => q
 | _ => false
def isB : V → Prop
 | .b _ => True
 | _ => False
@[simp] theorem bOf_b {q : Bool} : bOf (.b q) = q := rfl
@[simp] theorem isB_b {q : Bool} : isB (.b q) = True := rfl
@[simp] theorem bOf_optV {c : Bool} {v : V} : bOf (optV c v) = (c && bOf v) := by cases c <;> rfl
theorem isB_inv {v : V} (h : isB v) : v = .b (bOf v) := by cases v <;> first | rfl | exact h.elim

def pickOK (p : Bool) (y z : V) : Prop := impG p (isB y) ∧ impG (!p) (isB z)

open Classical in
noncomputable def stepG (T : Tab) (op : Op) (ev : Operand → V) (lk : Nat → Ob) (nx : Nat) : Option (V × List (Nat × Ob)) :=
 match op with
 | .pick x y z => match ev x with
  | .b p => if pickOK p (ev y) (ev z) then some (.b (if p = true then bOf (ev y) else bOf (ev z)), []) else step T (.pick x y z) ev lk nx
  | _ => none
 | op => step T op ev lk nx

theorem stepG_step {T : Tab} {op : Op} {ev : Operand → V} {lk : Nat → Ob} {nx : Nat} {r : V × List (Nat × Ob)} (h : stepG T op ev lk nx = some r) : step T op ev lk nx = some r := by
 unfold stepG at h
 split at h
 ·rename_i x y z
  split at h
  ·rename_i p hp
   split at h
   ·rename_i hc
    obtain ⟨h1, h2⟩ := hc
    rw [← h]
    simp only [step, hp]
    cases p with
    | true =>
     have h1 := isB_inv (h1 rfl)
     rw [h1]
     cases ev z <;> rfl
    | false =>
     have h2 := isB_inv (h2 rfl)
     rw [h2]
     cases ev y <;> rfl
   ·exact h
  ·cases h
 ·exact h

def isPick : Op → Bool
 | .pick _ _ _ => true
 | _ => false

open Classical in
noncomputable def pickB (T : Tab) (x y z : Operand) (ev : Operand → V) (lk : Nat → Ob) (nx : Nat) : V → Option (V × List (Nat × Ob))
 | .b p => if pickOK p (ev y) (ev z) then some (.b (if p = true then bOf (ev y) else bOf (ev z)), []) else step T (.pick x y z) ev lk nx
 | _ => none

noncomputable def pickG (T : Tab) (ev : Operand → V) (lk : Nat → Ob) (nx : Nat) : Op → Option (V × List (Nat × Ob))
 | .pick x y z => pickB T x y z ev lk nx (ev x)
 | _ => none

theorem pickG_pick {T : Tab} {ev : Operand → V} {lk : Nat → Ob} {nx : Nat} {x y z : Operand} : pickG T ev lk nx (.pick x y z) = pickB T x y z ev lk nx (ev x) := rfl
open Classical in
theorem pickB_b {T : Tab} {ev : Operand → V} {lk : Nat → Ob} {nx : Nat} {x y z : Operand} {p : Bool} : pickB T x y z ev lk nx (.b p) = if pickOK p (ev y) (ev z) then some (.b (if p = true then bOf (ev y) else bOf (ev z)), []) else step T (.pick x y z) ev lk nx := rfl

theorem stepG_if {T : Tab} {op : Op} {ev : Operand → V} {lk : Nat → Ob} {nx : Nat} : stepG T op ev lk nx = if isPick op = true then pickG T ev lk nx op else step T op ev lk nx := by
 cases op <;> first | rfl | skip

def pureOp : Op → Bool
 | .move _ | .assign _ | .pick _ _ _ | .load _ _ | .binOp _ _ _ _ _ | .unOp _ _ _ | .fieldAddr _ _ _ | .field _ _ _ | .indexAddr _ _ _ | .index _ _ _ | .lookup _ _ _ _ | .extract _ _ | .nilCheck _ | .convert _ _ _ | .slice _ _ _ _ _ => true
 | .call c => match c.callee with
  | .builtin .len | .builtin .min | .builtin .max => true
  | _ => false
 | _ => false

theorem pureOp_call {op : Op} (h : pureOp op = true) : isCall op = false := by
 unfold pureOp at h
 unfold isCall
 split at h <;> first | rfl | skip
 ·split at h <;> simp_all
 ·cases h

def pureR : Option (V × List (Nat × Ob)) → Prop
 | some (_, []) => True
 | _ => False
@[simp] theorem pureR_some {v : V} : pureR (some (v, [])) = True := rfl
def valD : Option (V × List (Nat × Ob)) → V
 | some (v, _) => v
 | none => .junk
@[simp] theorem valD_some {v : V} {u : List (Nat × Ob)} : valD (some (v, u)) = v := rfl

abbrev Trc := List (List Nat × List Nat)

section
variable (P : Program) (T : Tab) (ops : Array Oper) (d : Bool)

def goG (dst : Option Nat) (op : Op) (σ : St) (tr : Trc) (W : St → Trc → Prop) : Prop :=
 if isCall op = true then ∃ v upd tc, OpR P T op σ.ev σ.lk σ.h.length v upd tc ∧ W (St.put { σ with h := updL σ.h upd } dst v) (if d then tr ++ [(tc, upd.map (·.1))] else [])
 else match stepG T op σ.ev σ.lk σ.h.length with
  | some (v, upd) => W (St.put { σ with h := updL σ.h upd } dst v) (if d then tr ++ [(touchOf op σ.ev, upd.map (·.1))] else [])
  | none => False

def wpG : List Oper → St → Trc → (St → Trc → Prop) → Prop
 | [], σ, tr, C => C σ tr
 | o :: os, σ, tr, C =>
  match o.guard with
  | none => goG P T d o.dst o.op σ tr fun σ tr => wpG os σ tr C
  | some (j, want) => match gval ops σ.ev j with
   | .b x => if pureOp o.op = true then impG (x == want) (pureR (stepG T o.op σ.ev σ.lk σ.h.length)) ∧
         wpG os (St.put σ o.dst (optV (x == want) (valD (stepG T o.op σ.ev σ.lk σ.h.length)))) (if d then tr ++ [(if (x == want) = true then touchOf o.op σ.ev else [], [])] else []) C
     else (x = want → goG P T d o.dst o.op σ tr fun σ tr => wpG os σ tr C) ∧ (x ≠ want → wpG os (σ.put o.dst (.tup [])) (if d then tr ++ [([], [])] else []) C)
   | .tup [] => wpG os (σ.put o.dst (.tup [])) (if d then tr ++ [([], [])] else []) C
   | _ => False
end

section
variable {P : Program} {T : Tab} {ops : Array Oper} {d : Bool}

theorem goG_opS {W W' : St → Trc → Prop} (hW : ∀ σ tr, W σ tr → W' σ tr) {o : Oper} {σ : St} {tr : Trc}
  (h : goG P T d o.dst o.op σ tr W) : opS P T o σ fun v upd tc => W' (St.put { σ with h := updL σ.h upd } o.dst v) (if d then tr ++ [(tc, upd.map (·.1))] else []) := by
 unfold goG at h
 unfold opS
 split at h
 ·rw [if_pos (by assumption)]
  obtain ⟨v, upd, tc, h1, h2⟩ := h
  exact ⟨v, upd, tc, h1, hW _ _ h2⟩
 ·rw [if_neg (by assumption)]
  split at h
  ·rename_i v upd hs
   rw [stepG_step hs]
   exact hW _ _ h
  ·exact h.elim

theorem wpG_wpS : ∀ {os : List Oper} {σ : St} {tr : Trc} {C : St → Trc → Prop}, wpG P T ops d os σ tr C → wpS P T ops d os σ tr C
 | [], σ, tr, C, h => by simpa [wpG, wpS] using h
 | o :: os, σ, tr, C, h => by
  unfold wpG at h
  unfold wpS
  split at h
  ·rename_i hg
   simp only [hg]
   exact goG_opS (W' := fun σ tr => wpS P T ops d os σ tr C) (fun _ _ h => wpG_wpS h) h
  ·rename_i j want hg
   simp only [hg]
   split at h
   ·rename_i x hx
    simp only [hx]
    split at h
    ·rename_i hp
     refine ⟨fun hxw => ?_, fun hxw => ?_⟩
     ·have hb : (x == want) = true := by simpa using hxw
      obtain ⟨h1, h2⟩ := h
      rw [hb] at h1 h2
      have h1 := h1 rfl
      unfold opS
      rw [if_neg (by rw [pureOp_call hp]; simp)]
      cases hs : stepG T o.op σ.ev σ.lk σ.h.length with
      | none => rw [hs] at h1; exact h1.elim
      | some r =>
       obtain ⟨v, u⟩ := r
       rw [hs] at h1 h2
       cases u with
       | cons => exact h1.elim
       | nil =>
        rw [stepG_step hs]
        exact wpG_wpS (by simpa [updL] using h2)
     ·have hb : (x == want) = false := by simpa using hxw
      obtain ⟨_, h2⟩ := h
      rw [hb] at h2
      exact wpG_wpS (by simpa using h2)
    ·exact ⟨fun hxw => goG_opS (W' := fun σ tr => wpS P T ops d os σ tr C) (fun _ _ h => wpG_wpS h) (h.1 hxw), fun hxw => wpG_wpS (h.2 hxw)⟩
   ·rename_i hx
    simp only [hx]
    exact wpG_wpS h
   ·exact h.elim

/- The rules by which simp reckons. -/
@[congr] theorem wpG_congr {os : List Oper} {σ σ' : St} {tr tr' : Trc} {C : St → Trc → Prop} (h : σ = σ') (ht : tr = tr') : wpG P T ops d os σ tr C = wpG P T ops d os σ' tr' C := by rw [h, ht]

theorem wpG_nil {σ : St} {tr : Trc} {C : St → Trc → Prop} : wpG P T ops d [] σ tr C = C σ tr := rfl

def callG (P : Program) (T : Tab) (ops : Array Oper) (d : Bool) (os : List Oper) (dst : Option Nat) (op : Op) (σ : St) (tr : Trc) (C : St → Trc → Prop) : Prop :=
 ∃ v upd tc, OpR P T op σ.ev σ.lk σ.h.length v upd tc ∧ wpG P T ops d os (St.put { σ with h := updL σ.h upd } dst v) (if d then tr ++ [(tc, upd.map (·.1))] else []) C
@[congr] theorem callG_congr {os : List Oper} {dst : Option Nat} {op : Op} {σ σ' : St} {tr tr' : Trc} {C : St → Trc → Prop} (h : σ = σ') (ht : tr = tr') :
  callG P T ops d os dst op σ tr C = callG P T ops d os dst op σ' tr' C := by rw [h, ht]

def contG (P : Program) (T : Tab) (ops : Array Oper) (d : Bool) (os : List Oper) (dst : Option Nat) (tc : List Nat) (σ : St) (tr : Trc) (C : St → Trc → Prop) : Option (V × List (Nat × Ob)) → Prop
 | some (v, upd) => wpG P T ops d os (St.put { σ with h := updL σ.h upd } dst v) (if d then tr ++ [(tc, upd.map (·.1))] else []) C
 | none => False
@[congr] theorem contG_congr {os : List Oper} {dst : Option Nat} {tc tc' : List Nat} {σ : St} {tr tr' : Trc} {C : St → Trc → Prop} {x x' : Option (V × List (Nat × Ob))}
  (ht : tc = tc') (hr : tr = tr') (h : x = x') : contG P T ops d os dst tc σ tr C x = contG P T ops d os dst tc' σ tr' C x' := by rw [ht, hr, h]

theorem goG_eq {os : List Oper} {dst : Option Nat} {op : Op} {σ : St} {tr : Trc} {C : St → Trc → Prop} :
  goG P T d dst op σ tr (fun σ tr => wpG P T ops d os σ tr C) = if isCall op = true then callG P T ops d os dst op σ tr C else contG P T ops d os dst (if d then touchOf op σ.ev else []) σ tr C (stepG T op σ.ev σ.lk σ.h.length) := by
 unfold goG
 split
 ·rfl
 ·cases stepG T op σ.ev σ.lk σ.h.length with
  | none => rfl
  | some r => cases d <;> rfl

theorem wpG_op {os : List Oper} {dst : Option Nat} {op : Op} {ty : TypeId} {pos : String} {aft : Array Edge} {σ : St} {tr : Trc} {C : St → Trc → Prop} :
  wpG P T ops d (⟨dst, op, ty, pos, aft, none⟩ :: os) σ tr C = if isCall op = true then callG P T ops d os dst op σ tr C else contG P T ops d os dst (if d then touchOf op σ.ev else []) σ tr C (stepG T op σ.ev σ.lk σ.h.length) := by
 rw [← goG_eq]; rfl

def guardG (P : Program) (T : Tab) (ops : Array Oper) (d : Bool) (os : List Oper) (dst : Option Nat) (op : Op) (want : Bool) (σ : St) (tr : Trc) (C : St → Trc → Prop) : V → Prop
 | .b x => if pureOp op = true then impG (x == want) (pureR (stepG T op σ.ev σ.lk σ.h.length)) ∧
       wpG P T ops d os (St.put σ dst (optV (x == want) (valD (stepG T op σ.ev σ.lk σ.h.length)))) (if d then tr ++ [(if (x == want) = true then touchOf op σ.ev else [], [])] else []) C
   else (x = want → goG P T d dst op σ tr fun σ tr => wpG P T ops d os σ tr C) ∧ (x ≠ want → wpG P T ops d os (σ.put dst (.tup [])) (if d then tr ++ [([], [])] else []) C)
 | .tup [] => wpG P T ops d os (σ.put dst (.tup [])) (if d then tr ++ [([], [])] else []) C
 | _ => False
@[congr] theorem guardG_congr {os : List Oper} {dst : Option Nat} {op : Op} {want : Bool} {σ : St} {tr : Trc} {C : St → Trc → Prop} {x x' : V} (h : x = x') :
  guardG P T ops d os dst op want σ tr C x = guardG P T ops d os dst op want σ tr C x' := by rw [h]
theorem guardG_b {os : List Oper} {dst : Option Nat} {op : Op} {want x : Bool} {σ : St} {tr : Trc} {C : St → Trc → Prop} : guardG P T ops d os dst op want σ tr C (.b x) =
  if pureOp op = true then impG (x == want) (pureR (stepG T op σ.ev σ.lk σ.h.length)) ∧
    wpG P T ops d os (St.put σ dst (optV (x == want) (valD (stepG T op σ.ev σ.lk σ.h.length)))) (if d then tr ++ [(if (x == want) = true then touchOf op σ.ev else [], [])] else []) C
   else (x = want → goG P T d dst op σ tr fun σ tr => wpG P T ops d os σ tr C) ∧ (x ≠ want → wpG P T ops d os (σ.put dst (.tup [])) (if d then tr ++ [([], [])] else []) C) := rfl
theorem guardG_tup {os : List Oper} {dst : Option Nat} {op : Op} {want : Bool} {σ : St} {tr : Trc} {C : St → Trc → Prop} : guardG P T ops d os dst op want σ tr C (.tup []) = wpG P T ops d os (σ.put dst (.tup [])) (if d then tr ++ [([], [])] else []) C := rfl
theorem wpG_guard {os : List Oper} {dst : Option Nat} {op : Op} {ty : TypeId} {pos : String} {aft : Array Edge} {j : Nat} {want : Bool} {σ : St} {tr : Trc} {C : St → Trc → Prop} :
  wpG P T ops d (⟨dst, op, ty, pos, aft, some (j, want)⟩ :: os) σ tr C = guardG P T ops d os dst op want σ tr C (gval ops σ.ev j) := by
 simp only [wpG, guardG]

theorem contG_some {os : List Oper} {dst : Option Nat} {tc : List Nat} {σ : St} {v : V} {upd : List (Nat × Ob)} {tr : Trc} {C : St → Trc → Prop} :
  contG P T ops d os dst tc σ tr C (some (v, upd)) = wpG P T ops d os (St.put { σ with h := updL σ.h upd } dst v) (if d then tr ++ [(tc, upd.map (·.1))] else []) C := rfl

theorem EV.regionG {k : Nat} {K : Exit → St → Prop} {σ : St} {id : Nat} {l : List Oper} (hT : TOK P T) (h : wpG P T l.toArray false l σ [] fun σ' _ => K .normal σ') : EV P k (.region id l.toArray false) σ K :=
 EV.region hT (wpG_wpS h)

theorem EV.drawG {k : Nat} {K : Exit → St → Prop} {σ : St} {id : Nat} {l : List Oper} (hT : TOK P T) (hm : P.follows .mixedOrders = true) (h : wpG P T l.toArray true l σ [] fun σ' tr => okD l.toArray tr = true ∧ K .normal σ') : EV P k (.region id l.toArray true) σ K :=
 EV.draw hT hm (wpG_wpS h)

theorem callG_fun {os : List Oper} {dst : Option Nat} {as : Array Operand} {tys : Array TypeId} {f : FuncId} {σ : St} {tr : Trc} {args' : List V} {r : V} {C : St → Trc → Prop}
  (qc : QC P f args' [] r []) (ha : (as.toList.map σ.ev).map (ren fun _ => none) = args')
  (h : contG P T ops d os dst [] σ tr C (some (ren (fun _ => none) r, []))) : callG P T ops d os dst (.call ⟨.value (.func f), as, tys⟩) σ tr C := by
 obtain ⟨v, upd, tc, h1, h2⟩ := callS_fun (T := T) (ops := ops) (d := d) (os := []) (dst := none) (tys := tys) (tr := []) (C := fun _ _ => True) qc ha trivial
 have hk : (fun i : Nat => (keys ([] : List Nat) σ.h.length ([] : List Ob).length)[i]?) = fun _ => (none : Option Nat) := by
  funext i; simp [keys]
 have h3 : OpR P T (.call ⟨.value (.func f), as, tys⟩) σ.ev σ.lk σ.h.length (ren (fun i => (keys ([] : List Nat) σ.h.length ([] : List Ob).length)[i]?) r) (callUpd (keys ([] : List Nat) σ.h.length ([] : List Ob).length) []) ([] ++ []) := by
  refine .call (f := f) (cap := []) (args' := args') rfl rfl (.inl ⟨rfl, rfl⟩) { nodup := List.nodup_nil, disj := by simp, len := by rw [← ha]; simp, args := ?_, qc := qc, view := .inl rfl, more := Nat.le_refl _, low := by simp, fresh := by simp }
  intro j x x' hx hx'
  rw [List.append_nil] at hx
  rw [← ha, List.getElem?_map, hx] at hx'
  exact .inl (Option.some.inj hx').symm
 rw [hk] at h3
 exact ⟨_, _, _, h3, by simpa [callUpd, keys, contG] using h⟩

end

end Go.AM
end
section
namespace Go.AM
open Go

section
variable {T : Tab} {ev : Operand → V} {lk : Nat → Ob} {nx : Nat}

theorem step_move {x : Operand} : step T (.move x) ev lk nx = some (ev x, []) := rfl
theorem step_assign {x : Operand} : step T (.assign x) ev lk nx = some (ev x, []) := rfl
theorem step_alloc {t : TypeId} : step T (.alloc t) ev lk nx = if (T t).size ≠ 0 then some (.ptr nx 0 0 0, [(nx, if vkind T t (T t).kind = true then .var t (T t).zero else .arr 0 (T t).size [(T t).zero])]) else none := rfl
@[simp] theorem newOb_eq {e : TypeId} {sz : Nat} {k : TK} {es : List (List V)} : newOb e sz k es = if k = .int .u8 ∧ sz = 1 then .row e 0 es else .arr 0 sz es := rfl
@[simp] theorem vkind_str {t : TypeId} {f : Nat × TypeId} {fs : List (Nat × TypeId)} : vkind T t (.str (f :: fs)) = (decide ((T f.2).kind = .ptr t) || vkind2 T f.2 (T f.2).kind) := rfl
@[simp] theorem vkind2_str {t : TypeId} {f : Nat × TypeId} {fs : List (Nat × TypeId)} : vkind2 T t (.str (f :: fs)) = decide ((T f.2).kind = .ptr t) := rfl
@[simp] theorem vkind2_str0 {t : TypeId} : vkind2 T t (.str []) = false := rfl
@[simp] theorem vkind2_int {t : TypeId} {k : IntKind} : vkind2 T t (.int k) = false := rfl
@[simp] theorem vkind2_slc {t e : TypeId} : vkind2 T t (.slc e) = false := rfl
@[simp] theorem vkind2_ptr {t e : TypeId} : vkind2 T t (.ptr e) = false := rfl
@[simp] theorem vkind2_arr {t e : TypeId} {n : Nat} : vkind2 T t (.arr n e) = false := rfl
@[simp] theorem vkind2_map {t e k : TypeId} : vkind2 T t (.map k e) = false := rfl
@[simp] theorem vkind2_string {t : TypeId} : vkind2 T t .string = false := rfl
@[simp] theorem vkind2_bool {t : TypeId} : vkind2 T t .bool = false := rfl
@[simp] theorem vkind2_func {t : TypeId} : vkind2 T t .func = false := rfl
@[simp] theorem vkind2_iface {t : TypeId} : vkind2 T t .iface = false := rfl
@[simp] theorem vkind_int {t : TypeId} {k : IntKind} : vkind T t (.int k) = false := rfl
@[simp] theorem vkind_slc {t e : TypeId} : vkind T t (.slc e) = false := rfl
@[simp] theorem vkind_ptr {t e : TypeId} : vkind T t (.ptr e) = false := rfl
@[simp] theorem vkind_arr {t e : TypeId} {n : Nat} : vkind T t (.arr n e) = false := rfl
@[simp] theorem vkind_map {t e k : TypeId} : vkind T t (.map k e) = false := rfl
@[simp] theorem vkind_string {t : TypeId} : vkind T t .string = false := rfl
@[simp] theorem vkind_bool {t : TypeId} : vkind T t .bool = false := rfl
@[simp] theorem vkind_func {t : TypeId} : vkind T t .func = false := rfl
@[simp] theorem vkind_iface {t : TypeId} : vkind T t .iface = false := rfl
def boxV (T : Tab) (t : TypeId) (nx : Nat) : Option (List V) → Option (V × List (Nat × Ob))
 | some cs => if (T t).size ≠ 0 ∧ cs.length = (T t).size then some (.ptr nx 0 0 0, [(nx, .arr 0 (T t).size [cs])]) else none
 | none => none
theorem boxV_some {t : TypeId} {cs : List V} : boxV T t nx (some cs) = if (T t).size ≠ 0 ∧ cs.length = (T t).size then some (.ptr nx 0 0 0, [(nx, .arr 0 (T t).size [cs])]) else none := rfl
theorem step_box {t : TypeId} {x : Operand} : step T (.box t x) ev lk nx = boxV T t nx (cellsOf (ev x)) := by
 simp only [step, boxV]; cases cellsOf (ev x) <;> rfl
theorem step_load {t : TypeId} {x : Operand} : step T (.load t x) ev lk nx = if (T t).size ≠ 0 then (ld (T t) lk (ev x)).map fun v => (v, []) else none := rfl
theorem step_store {t : TypeId} {x y : Operand} : step T (.store t x y) ev lk nx = if (T t).size ≠ 0 then (stv (T t) lk (ev x) (ev y)).map fun u => (.junk, [u]) else none := rfl
theorem step_binOp {op : BinOp} {t t' : TypeId} {x y : Operand} : step T (.binOp op t x y t') ev lk nx = (binV T op t (ev x) (ev y)).map fun v => (v, []) := rfl
theorem step_unOp {op : UnOp} {t : TypeId} {x : Operand} : step T (.unOp op t x) ev lk nx = (unV op (ev x)).map fun v => (v, []) := rfl
def faV (T : Tab) (f : Nat) (x : V) : TK → Option (V × List (Nat × Ob))
 | .str fs => match fs[f]? with
  | some (off, ty) => if (T ty).size ≠ 0 then (offV off x).map fun v => (v, []) else none
  | none => none
 | _ => none
theorem step_fieldAddr {t : TypeId} {x : Operand} {f : Nat} : step T (.fieldAddr t x f) ev lk nx = faV T f (ev x) (T t).kind := by
 simp only [step, faV]; cases (T t).kind <;> rfl
def ixA (T : Tab) (lk : Nat → Ob) (x : V) : TK → V → Option (V × List (Nat × Ob))
 | .slc e, .i _ n => if (T e).size ≠ 0 then (idxV (T e).size lk n x).map fun v => (v, []) else none
 | .arr len e, .i _ n => if (T e).size ≠ 0 ∧ 0 ≤ n ∧ n < len then (offV (n.toNat * (T e).size) x).map fun v => (v, []) else none
 | _, _ => none
theorem step_indexAddr {t : TypeId} {x ix : Operand} : step T (.indexAddr t x ix) ev lk nx = ixA T lk (ev x) (T t).kind (ev ix) := by
 simp only [step, ixA]; cases (T t).kind <;> cases ev ix <;> rfl
theorem ixA_slc {x : V} {e : TypeId} {k : IntKind} {n : Int} : ixA T lk x (.slc e) (.i k n) = if (T e).size ≠ 0 then (idxV (T e).size lk n x).map fun v => (v, []) else none := rfl
theorem ixA_arr {x : V} {len : Nat} {e : TypeId} {k : IntKind} {n : Int} : ixA T lk x (.arr len e) (.i k n) = if (T e).size ≠ 0 ∧ 0 ≤ n ∧ n < len then (offV (n.toNat * (T e).size) x).map fun v => (v, []) else none := rfl
def extV (j : Nat) : V → Option (V × List (Nat × Ob))
 | .tup vs => (vs[j]?).map fun v => (v, [])
 | _ => none
theorem extV_tup {j : Nat} {vs : List V} : extV j (.tup vs) = (vs[j]?).map fun v => (v, []) := rfl
theorem step_extract {x : Operand} {j : Nat} : step T (.extract x j) ev lk nx = extV j (ev x) := by
 simp only [step, extV]; cases ev x <;> rfl
def ncV : V → Option (V × List (Nat × Ob))
 | .ptr o ep ix fl => some (.ptr o ep ix fl, [])
 | .rp cs => some (.rp cs, [])
 | .fn f cap => some (.fn f cap, [])
 | .mp o => some (.mp o, [])
 | _ => none
theorem step_nilCheck {x : Operand} : step T (.nilCheck x) ev lk nx = ncV (ev x) := by
 simp only [step, ncV]; cases ev x <;> rfl
theorem ncV_ptr {o ep ix fl : Nat} : ncV (.ptr o ep ix fl) = some (.ptr o ep ix fl, []) := rfl
theorem ncV_rp {cs : List V} : ncV (.rp cs) = some (.rp cs, []) := rfl
theorem ncV_fn {f : FuncId} {cs : List V} : ncV (.fn f cs) = some (.fn f cs, []) := rfl
theorem ncV_mp {o : Nat} : ncV (.mp o) = some (.mp o, []) := rfl
def lenB (x : V) : TK → Option (V × List (Nat × Ob))
 | .string => match x with
  | .s u => some (.i .i64 (u.length : Nat), [])
  | _ => none
 | .slc _ => match lenV x with
  | some n => some (.i .i64 (n : Nat), [])
  | none => none
 | _ => none
theorem step_len {t : TypeId} {x : Operand} : step T (.call ⟨.builtin .len, #[x], #[t]⟩) ev lk nx = lenB (ev x) (T t).kind := by
 simp only [step, builtinV, lenB, List.map_cons, List.map_nil]
 cases (T t).kind <;> first | rfl | (cases ev x <;> rfl)
theorem lenB_str {u : List UInt8} : lenB (.s u) .string = some (.i .i64 (u.length : Nat), []) := rfl
theorem lenB_ro {e : TypeId} {sz : Nat} {es : List (List V)} : lenB (.ro sz es) (.slc e) = some (.i .i64 (es.length : Nat), []) := rfl
theorem lenB_sl {e : TypeId} {o ep off n : Nat} : lenB (.sl o ep off n) (.slc e) = some (.i .i64 (n : Nat), []) := rfl
theorem lenB_nil {e : TypeId} : lenB (.c (.slice none 0 0)) (.slc e) = some (.i .i64 0, []) := rfl
theorem lenB_z {e : TypeId} : lenB .z (.slc e) = some (.i .i64 0, []) := rfl

def buildV (T : Tab) (t : TypeId) (ps : List (Nat × V)) : TK → Option (V × List (Nat × Ob))
 | .str fs => if (fs.all fun f => (T f.2).size != 0) = true then (fillV (places T fs) (T t).zero ps).map fun cs => (.agg cs, []) else none
 | .arr _ e => if (T e).size ≠ 0 then (fillV (fun j => some (j * (T e).size, (T e).size)) (T t).zero ps).map fun cs => (.agg cs, []) else none
 | _ => none
theorem step_build {t : TypeId} {ps : Array (Nat × Operand)} : step T (.build t ps) ev lk nx = if (T t).size ≠ 0 then buildV T t (ps.toList.map fun p => (p.1, ev p.2)) (T t).kind else none := by
 simp only [step, buildV]; cases (T t).kind <;> rfl
def bsV (T : Tab) (n : Nat) (nx : Nat) (ps : List (Nat × V)) : TK → Option (V × List (Nat × Ob))
 | .slc e => if (T e).size ≠ 0 ∧ n * (T e).size ≤ 16777216 then
   (fillV (fun j => if j < n then some (j * (T e).size, (T e).size) else none) ((List.replicate n (T e).zero).flatten) ps).map fun cs =>
    (.sl nx 0 0 n, [(nx, .arr 0 (T e).size ((List.range n).map fun j => (cs.drop (j * (T e).size)).take (T e).size))]) else none
 | _ => none
theorem step_buildSlice {t : TypeId} {n : Nat} {ps : Array (Nat × Operand)} : step T (.buildSlice t n ps) ev lk nx = bsV T n nx (ps.toList.map fun p => (p.1, ev p.2)) (T t).kind := by
 simp only [step, bsV]
 cases (T t).kind with
 | slc e =>
  dsimp only
  split
  ·cases fillV (fun j => if j < n then some (j * (T e).size, (T e).size) else none) ((List.replicate n (T e).zero).flatten) (ps.toList.map fun p => (p.1, ev p.2)) <;> rfl
  ·rfl
 | _ => rfl
def ixV (T : Tab) : TK → V → V → Option (V × List (Nat × Ob))
 | .arr len e, .agg cs, .i _ n => if (T e).size ≠ 0 ∧ 0 ≤ n ∧ n < len ∧ n.toNat * (T e).size + (T e).size ≤ cs.length then (valOf (T e) ((cs.drop (n.toNat * (T e).size)).take (T e).size)).map fun v => (v, []) else none
 | .string, .s u, .i _ n => if 0 ≤ n ∧ n < u.length then some (.i .u8 ((u.getD n.toNat 0).toNat), []) else none
 | _, _, _ => none
theorem step_index {t : TypeId} {x ix : Operand} : step T (.index t x ix) ev lk nx = ixV T (T t).kind (ev x) (ev ix) := by
 simp only [step, ixV]; cases (T t).kind <;> cases ev x <;> cases ev ix <;> rfl
theorem ixV_arr {len : Nat} {e : TypeId} {cs : List V} {k : IntKind} {n : Int} : ixV T (.arr len e) (.agg cs) (.i k n) = if (T e).size ≠ 0 ∧ 0 ≤ n ∧ n < len ∧ n.toNat * (T e).size + (T e).size ≤ cs.length then (valOf (T e) ((cs.drop (n.toNat * (T e).size)).take (T e).size)).map fun v => (v, []) else none := rfl
theorem ixV_str {u : List UInt8} {k : IntKind} {n : Int} : ixV T .string (.s u) (.i k n) = if 0 ≤ n ∧ n < u.length then some (.i .u8 ((u.getD n.toNat 0).toNat), []) else none := rfl
def apB (T : Tab) (lk : Nat → Ob) (nx : Nat) (s x : V) : TK → TK → Option (V × List (Nat × Ob))
 | .slc e, .slc _ => if (T e).size ≠ 0 then appendV e (T e) lk nx s x else none
 | .slc e, .string => if (T e).size ≠ 0 then appendV e (T e) lk nx s x else none
 | _, _ => none
theorem step_append {t t' : TypeId} {x y : Operand} : step T (.call ⟨.builtin .append, #[x, y], #[t, t']⟩) ev lk nx = apB T lk nx (ev x) (ev y) (T t).kind (T t').kind := by
 simp only [step, builtinV, apB, List.map_cons, List.map_nil]; cases (T t).kind <;> cases (T t').kind <;> rfl
def msV (T : Tab) (nx : Nat) : TK → V → V → Option (V × List (Nat × Ob))
 | .slc e, .i _ n, .i _ m => if (T e).size ≠ 0 ∧ 0 ≤ n ∧ n ≤ m ∧ roomFor m.toNat (T e).bytes then some (.sl nx 0 0 n.toNat, [(nx, .arr 0 (T e).size (List.replicate n.toNat (T e).zero))]) else none
 | _, _, _ => none
theorem step_makeSlice {t : TypeId} {l c : Operand} : step T (.makeSlice t l c) ev lk nx = msV T nx (T t).kind (ev l) (ev c) := by
 simp only [step, msV]; cases (T t).kind <;> cases ev l <;> cases ev c <;> rfl
theorem msV_i {e : TypeId} {k k' : IntKind} {n m : Int} : msV T nx (.slc e) (.i k n) (.i k' m) = if (T e).size ≠ 0 ∧ 0 ≤ n ∧ n ≤ m ∧ roomFor m.toNat (T e).bytes then some (.sl nx 0 0 n.toNat, [(nx, .arr 0 (T e).size (List.replicate n.toNat (T e).zero))]) else none := rfl

theorem step_makeFunc {f : FuncId} {a c : Array Operand} : step T (.makeFunc (.func f) a c) ev lk nx = if a.size = 0 then some (.fn f (c.toList.map ev), []) else if c.size = 0 then some (.bm f (a.toList.map ev), []) else none := rfl

theorem ld_ptr {ti : TI} {o ep ix fl : Nat} : ld ti lk (.ptr o ep ix fl) = match lk o with
  | .arr ep' _ es => if ep' = ep ∧ ix < es.length ∧ fl + ti.size ≤ (es.getD ix []).length then valOf ti (((es.getD ix []).drop fl).take ti.size) else none
  | .var _ cs => if ep = 0 ∧ ix = 0 ∧ fl + ti.size ≤ cs.length then valOf ti ((cs.drop fl).take ti.size) else none
  | _ => none := by simp only [ld]; cases lk o <;> rfl
theorem ld_rp {ti : TI} {cs : List V} : ld ti lk (.rp cs) = if ti.size ≤ cs.length then valOf ti (cs.take ti.size) else none := rfl
theorem offV_ptr {n o ep ix fl : Nat} : offV n (.ptr o ep ix fl) = some (.ptr o ep ix (fl + n)) := rfl
theorem offV_rp {n : Nat} {cs : List V} : offV n (.rp cs) = some (.rp (cs.drop n)) := rfl
theorem idxV_ro {sz sz' : Nat} {n : Int} {es : List (List V)} : idxV sz lk n (.ro sz' es) = if sz' = sz ∧ 0 ≤ n ∧ n < es.length then some (.rp (es.getD n.toNat [])) else none := rfl
theorem idxV_sl {sz o ep off len : Nat} {n : Int} : idxV sz lk n (.sl o ep off len) = match lk o with
  | .arr ep' sz' _ => if ep' = ep ∧ sz' = sz ∧ 0 ≤ n ∧ n < len then some (.ptr o ep (off + n.toNat) 0) else none
  | _ => none := by simp only [idxV]; cases lk o <;> rfl
theorem unV_not {x : Bool} : unV .not (.b x) = some (.b (!x)) := rfl
theorem unV_neg {k : IntKind} {n : Int} : unV .neg (.i k n) = some (.i k (k.wrap (0 - n))) := rfl
theorem binV_int {op : BinOp} {t : TypeId} {k k' : IntKind} {a b : Int} : binV T op t (.i k a) (.i k' b) = (match op with | .shl => if b < 0 then none else some (.i k (k.wrap (a * 2 ^ (min b.toNat k.bits)))) | .shr => if b < 0 then none else some (.i k (a.fdiv (2 ^ (min b.toNat k.bits)))) | op => if k = k' then intOp op k a b else none) := by
 cases op <;> rfl
theorem binV_str {op : BinOp} {t : TypeId} {a b : List UInt8} : binV T op t (.s a) (.s b) = strOp op a b := by
 cases op <;> rfl
theorem binV_eqlb {t : TypeId} {a b : Bool} : binV T .eql t (.b a) (.b b) = match (T t).kind with | .bool => some (.b (a == b)) | _ => none := rfl
theorem binV_eqls {t : TypeId} {a b : List UInt8} : binV T .eql t (.agg [.s a]) (.agg [.s b]) = match (T t).kind, (T t).zero with
  | .str [(0, ft)], [.s _] => match (T ft).kind with
   | .string => some (.b (decide (a = b)))
   | _ => none
  | _, _ => none := rfl
theorem binV_neqs {t : TypeId} {a b : List UInt8} : binV T .neq t (.agg [.s a]) (.agg [.s b]) = match (T t).kind, (T t).zero with
  | .str [(0, ft)], [.s _] => match (T ft).kind with
   | .string => some (.b (!decide (a = b)))
   | _ => none
  | _, _ => none := rfl
theorem binV_neqb {t : TypeId} {a b : Bool} : binV T .neq t (.b a) (.b b) = match (T t).kind with | .bool => some (.b (!(a == b))) | _ => none := rfl

end

end Go.AM
end
section
namespace Go.AM
open Go

section
variable {P : Program} {T : Tab} {ops : Array Oper} {d : Bool}

theorem callG_own {os : List Oper} {dst : Option Nat} {as : Array Operand} {tys : Array TypeId} {fo : Operand} {f : FuncId} {cap : List V} {σ : St} {tr : Trc} {args' : List V} {objs objs' : List Ob} {r : V} {C : St → Trc → Prop} (ρ : List Nat)
  (hf : σ.ev fo = .fn f cap) (qc : QC P f args' objs r objs') (ha : (as.toList.map σ.ev ++ cap).map (ren (toIdx ρ)) = args') (ho : (ρ.map fun o => (σ.lk o).ren (toIdx ρ)) = objs)
  (hn : ρ.Nodup) (hlow : ∀ o ∈ ρ, o < σ.h.length) (hlen : ρ.length ≤ objs'.length)
  (h : contG P T ops d os dst ρ σ tr C (some (ren (fun i => (keys ρ σ.h.length objs'.length)[i]?) r, callUpd (keys ρ σ.h.length objs'.length) objs'))) : callG P T ops d os dst (.call ⟨.value fo, as, tys⟩) σ tr C := by
 have h3 : OpR P T (.call ⟨.value fo, as, tys⟩) σ.ev σ.lk σ.h.length (ren (fun i => (keys ρ σ.h.length objs'.length)[i]?) r) (callUpd (keys ρ σ.h.length objs'.length) objs') (ρ ++ []) := by
  refine .call (f := f) (cap := cap) (args' := args') rfl rfl (.inl ⟨hf, rfl⟩) { nodup := hn, disj := by simp, len := by rw [← ha]; simp, args := ?_, qc := by rw [ho]; exact qc, view := .inl rfl, more := hlen, low := hlow, fresh := fun j _ => by simp [St.lk, List.getD] }
  intro j x x' hx hx'
  rw [← ha, List.getElem?_map, hx] at hx'
  exact .inl (Option.some.inj hx').symm
 rw [List.append_nil] at h3
 exact ⟨_, _, _, h3, h⟩

end

end Go.AM
end
section
namespace Go.AM
open Go

section
variable {P : Program} {T : Tab} {ops : Array Oper} {d : Bool}
theorem guardG_v {os : List Oper} {dst : Option Nat} {op : Op} {want x : Bool} {σ : St} {tr : Trc} {C : St → Trc → Prop} : guardG P T ops d os dst op want σ tr C (.b x) =
  if pureOp op = true then impG (x == want) (pureR (stepG T op σ.ev σ.lk σ.h.length)) ∧
    wpG P T ops d os (St.put σ dst (optV (x == want) (valD (stepG T op σ.ev σ.lk σ.h.length)))) (if d then tr ++ [(if (x == want) = true then touchOf op σ.ev else [], [])] else []) C
   else (x = want → if isCall op = true then callG P T ops d os dst op σ tr C else contG P T ops d os dst (if d then touchOf op σ.ev else []) σ tr C (stepG T op σ.ev σ.lk σ.h.length)) ∧ (x ≠ want → wpG P T ops d os (σ.put dst (.tup [])) (if d then tr ++ [([], [])] else []) C) := by
 rw [guardG_b, goG_eq]
theorem guardG_o {os : List Oper} {dst : Option Nat} {op : Op} {want c x : Bool} {σ : St} {tr : Trc} {C : St → Trc → Prop} : guardG P T ops d os dst op want σ tr C (optV c (.b x)) =
  if pureOp op = true then impG (c && (x == want)) (pureR (stepG T op σ.ev σ.lk σ.h.length)) ∧
    wpG P T ops d os (St.put σ dst (optV (c && (x == want)) (valD (stepG T op σ.ev σ.lk σ.h.length)))) (if d then tr ++ [(if (c && (x == want)) = true then touchOf op σ.ev else [], [])] else []) C
   else ((c && (x == want)) = true → if isCall op = true then callG P T ops d os dst op σ tr C else contG P T ops d os dst (if d then touchOf op σ.ev else []) σ tr C (stepG T op σ.ev σ.lk σ.h.length)) ∧ ((c && (x == want)) = false → wpG P T ops d os (σ.put dst (.tup [])) (if d then tr ++ [([], [])] else []) C) := by
 cases c with
 | true => rw [optV_true, guardG_v]; cases x <;> cases want <;> simp
 | false => rw [optV_false, guardG_tup]; simp
end

section
variable {T : Tab} {ev : Operand → V} {lk : Nat → Ob} {nx : Nat}

def noneM : List Int → Option V := fun _ => none
def setM (f : List Int → Option V) (n : Int) (v : V) : List Int → Option V := fun k => if k = [n] then some v else f k
def mmV (T : Tab) (nx : Nat) : TK → Option (V × List (Nat × Ob))
 | .map kt _ => match kkOf T kt with
  | some k => some (.mp nx, [(nx, .mp k noneM)])
  | none => none
 | _ => none
theorem step_makeMap {t : TypeId} : step T (.makeMap t none) ev lk nx = mmV T nx (T t).kind := rfl
def muB (T : Tab) (kt : TypeId) (y v : V) (o : Nat) : Ob → Option (V × List (Nat × Ob))
 | .mp k f => match keyOf k y with
  | some key => if kkOf T kt = some k then some (.junk, [(o, .mp k fun k' => if k' = key then some v else f k')]) else none
  | none => none
 | _ => none
theorem muB_mp {kt : TypeId} {k k' : IntKind} {n : Int} {v : V} {o : Nat} {f : List Int → Option V} : muB T kt (.i k' n) v o (.mp (.int k) f) = if k' = k ∧ kkOf T kt = some (.int k) then some (.junk, [(o, .mp (.int k) (setM f n v))]) else none := by
 unfold muB keyOf
 by_cases h : k' = k
 ·simp [h]; rfl
 ·have h2 : ¬ k = k' := fun e => h e.symm
  simp [h, h2]
def muA (T : Tab) (lk : Nat → Ob) (y v : V) : TK → V → Option (V × List (Nat × Ob))
 | .map kt _, .mp o => muB T kt y v o (lk o)
 | _, _ => none
theorem muA_map {kt et : TypeId} {y v : V} {o : Nat} : muA T lk y v (.map kt et) (.mp o) = muB T kt y v o (lk o) := rfl
theorem step_mapUpdate {t : TypeId} {x y v : Operand} : step T (.mapUpdate t x y v) ev lk nx = muA T lk (ev y) (ev v) (T t).kind (ev x) := by
 simp only [step, muA, muB]; cases (T t).kind <;> cases ev x <;> rfl
theorem step_insert {t : TypeId} {x y v : Operand} : step T (.insert t x y v) ev lk nx = muA T lk (ev y) (ev v) (T t).kind (ev x) := by
 simp only [step, muA, muB]; cases (T t).kind <;> cases ev x <;> rfl
def lkB (T : Tab) (ok : Bool) (kt et : TypeId) (y : V) : Ob → Option (V × List (Nat × Ob))
 | .mp k f => match keyOf k y with
  | some key => if (T et).size ≠ 0 ∧ kkOf T kt = some k ∧ (T et).zv.oneCell' = true then some (if ok then .tup [(f key).getD (toV (T et).zv), .b (f key).isSome] else (f key).getD (toV (T et).zv), []) else none
  | none => none
 | _ => none
theorem lkB_mp {ok : Bool} {kt et : TypeId} {k k' : IntKind} {n : Int} {f : List Int → Option V} : lkB T ok kt et (.i k' n) (.mp (.int k) f) =
  if k' = k ∧ (T et).size ≠ 0 ∧ kkOf T kt = some (.int k) ∧ (T et).zv.oneCell' = true then some (if ok then .tup [(f [n]).getD (toV (T et).zv), .b (f [n]).isSome] else (f [n]).getD (toV (T et).zv), []) else none := by
 unfold lkB keyOf
 by_cases h : k' = k
 ·simp [h]
 ·have h2 : ¬ k = k' := fun e => h e.symm
  simp [h, h2]
def lkA (T : Tab) (lk : Nat → Ob) (ok : Bool) (y : V) : TK → V → Option (V × List (Nat × Ob))
 | .map kt et, .mp o => lkB T ok kt et y (lk o)
 | _, _ => none
theorem lkA_map {ok : Bool} {kt et : TypeId} {y : V} {o : Nat} : lkA T lk ok y (.map kt et) (.mp o) = lkB T ok kt et y (lk o) := rfl
theorem step_lookup {t : TypeId} {x y : Operand} {ok : Bool} : step T (.lookup t x y ok) ev lk nx = lkA T lk ok (ev y) (T t).kind (ev x) := by
 simp only [step, lkA, lkB]; cases (T t).kind <;> cases ev x <;> rfl

def bndV (most : Nat) : V → Option Nat
 | .i _ n => if 0 ≤ n ∧ n ≤ most then some n.toNat else none
 | _ => none
theorem bndV_i {m : Nat} {k : IntKind} {n : Int} : bndV m (.i k n) = if 0 ≤ n ∧ n ≤ m then some n.toNat else none := rfl
theorem bound_none {m dflt : Nat} : boundOf ev m dflt none = some dflt := rfl
theorem bound_some {m dflt : Nat} {x : Operand} : boundOf ev m dflt (some x) = bndV m (ev x) := by
 unfold boundOf bndV; rfl
def cutB (lo : Nat → Option Nat) : Option Nat → Option (Nat × Nat)
 | some h => match lo h with
  | some l => some (l, h)
  | none => none
 | none => none
theorem cutB_some {lo : Nat → Option Nat} {h : Nat} : cutB lo (some h) = (lo h).map fun l => (l, h) := by unfold cutB; dsimp only; cases lo h <;> rfl
def slObV (T : Tab) (e : TypeId) (o ep off : Nat) (p : Nat × Nat) : Ob → Option (V × List (Nat × Ob))
 | .arr ep' sz _ => if ep' = ep ∧ sz = (T e).size then some (.sl o ep (off + p.1) (p.2 - p.1), []) else none
 | _ => none
theorem slObV_arr {e : TypeId} {o ep off ep' sz : Nat} {p : Nat × Nat} {es : List (List V)} : slObV T e o ep off p (.arr ep' sz es) = if ep' = ep ∧ sz = (T e).size then some (.sl o ep (off + p.1) (p.2 - p.1), []) else none := rfl
def slcV (T : Tab) (lk : Nat → Ob) (ev : Operand → V) (lo hi mx : Option Operand) (k : TK) (y : V) : Option (V × List (Nat × Ob)) := match k, y with
  | .string, .s u => match mx, boundOf ev u.length u.length hi with
   | none, some h => match boundOf ev h 0 lo with
    | some l => some (.s ((u.drop l).take (h - l)), [])
    | none => none
   | _, _ => none
  | .slc e, .sl o ep off n => if (T e).size ≠ 0 then match mx with
   | none => match boundOf ev n n hi with
    | some h => match boundOf ev h 0 lo with
     | some l => match lk o with
      | .arr ep' sz _ => if ep' = ep ∧ sz = (T e).size then some (.sl o ep (off + l) (h - l), []) else none
      | _ => none
     | none => none
    | none => none
   | some _ => none
   else none
  | .slc e, .ro sz es => if (T e).size ≠ 0 ∧ sz = (T e).size then match mx with
   | none => match boundOf ev es.length es.length hi with
    | some h => match boundOf ev h 0 lo with
     | some l => some (.ro sz ((es.drop l).take (h - l)), [])
     | none => none
    | none => none
   | some m => match hi, boundOf ev 0 0 hi, boundOf ev 0 0 lo, boundOf ev 0 0 (some m) with
    | some _, some _, some _, some _ => some (.z, [])
    | _, _, _, _ => none
   else none
  | .slc e, .c (.slice none 0 0) => if (T e).size ≠ 0 then match mx, boundOf ev 0 0 hi, boundOf ev 0 0 lo with
   | none, some _, some _ => some (.c (.slice none 0 0), [])
   | _, _, _ => none
   else none
  | _, _ => none
theorem step_slice {t : TypeId} {x : Operand} {lo hi mx : Option Operand} : step T (.slice t x lo hi mx) ev lk nx = slcV T lk ev lo hi mx (T t).kind (ev x) := rfl
theorem slcV_s {lo hi : Option Operand} {u : List UInt8} : slcV T lk ev lo hi none .string (.s u) = (cutB (fun h => boundOf ev h 0 lo) (boundOf ev u.length u.length hi)).map fun p => (.s ((u.drop p.1).take (p.2 - p.1)), []) := by
 simp only [slcV, cutB]
 cases boundOf ev u.length u.length hi with
 | none => rfl
 | some v => cases h2 : boundOf ev v 0 lo <;> simp [h2]
theorem slcV_sl {lo hi : Option Operand} {e : TypeId} {o ep off n : Nat} : slcV T lk ev lo hi none (.slc e) (.sl o ep off n) = if (T e).size ≠ 0 then (cutB (fun h => boundOf ev h 0 lo) (boundOf ev n n hi)).bind fun p => slObV T e o ep off p (lk o) else none := by
 simp only [slcV, cutB, slObV]
 cases boundOf ev n n hi with
 | none => rfl
 | some v => cases h2 : boundOf ev v 0 lo <;> simp [h2]
theorem slcV_ro {lo hi : Option Operand} {e : TypeId} {sz : Nat} {es : List (List V)} : slcV T lk ev lo hi none (.slc e) (.ro sz es) = if (T e).size ≠ 0 ∧ sz = (T e).size then (cutB (fun h => boundOf ev h 0 lo) (boundOf ev es.length es.length hi)).map fun p => (.ro sz ((es.drop p.1).take (p.2 - p.1)), []) else none := by
 simp only [slcV, cutB]
 cases boundOf ev es.length es.length hi with
 | none => rfl
 | some v => cases h2 : boundOf ev v 0 lo <;> simp [h2]
end
end Go.AM
end
section
namespace Go.AM
open Go

section
variable {P : Program} {T : Tab}

theorem seq_textR (hT : TOK P T) {ops : Array Oper} {Q : Exit → Act → World → Prop} {E : Env} (hG : GOK P E.w0 E.own) {rest : List Nat} : ∀ {os : List Oper} {σ σ' : St} {ss : List Stp}, SeqR P T ops os σ ss σ' → ∀ (k : Nat), (∀ j, j < os.length → ops[k + j]? = os[j]?) → ∀ {a : Act} {w : World}, Rel E σ a w →
  (∀ a' w', Rel E σ' a' w' → wpOps P ops Q rest a' w') → wpOps P ops Q (List.range' k os.length ++ rest) a w
 | _, _, _, _, .nil σ, k, _, a, w, hr, hK => hK a w hr
 | o :: os, σ, σ', s :: ss, .cons h hs, k, hos, a, w, ⟨m, R⟩, hK => by
  have ho : ops[k]? = some o := by have := hos 0 (by simp); simpa using this
  rw [List.length_cons, List.range'_succ, List.cons_append, wpOps_cons]
  refine wpOp_stp hT ho hG R.toHRel R.ev R.tmps h fun u w' m' h1 h2 h3 => ?_
  refine seq_textR hT hG hs (k + 1) (fun j hj => ?_) ⟨m', ?_⟩ hK
  ·have := hos (j + 1) (by simp; omega)
   rw [show k + 1 + j = k + (j + 1) by omega, this]
   simp
  ·exact (R.turn h1 h2).put o.dst h3

def rowV : V → Prop
 | .ro _ _ => True
 | .z => True
 | .sl _ _ _ _ => True
 | _ => False
def emptyV : V → Prop
 | .ro _ es => es = []
 | .z => True
 | .sl _ _ _ n => n = 0
 | _ => False
@[simp] theorem rowV_ro {sz : Nat} {es : List (List V)} : rowV (.ro sz es) = True := rfl
@[simp] theorem rowV_z : rowV .z = True := rfl
@[simp] theorem rowV_sl {o ep off n : Nat} : rowV (.sl o ep off n) = True := rfl
@[simp] theorem emptyV_ro {sz : Nat} {es : List (List V)} : emptyV (.ro sz es) = (es = []) := rfl
@[simp] theorem emptyV_z : emptyV .z = True := rfl
@[simp] theorem emptyV_sl {o ep off n : Nat} : emptyV (.sl o ep off n) = (n = 0) := rfl

theorem Sub.newNilE {k : Nat} {σ : St} (ep d sz : Nat) (hsz : sz ≠ 0) (hd : σ.t.getD d .junk = .c (.slice none 0 0) ∨ σ.t.getD d .junk = .z) : Sub k σ ⟨σ.t.set d (.sl σ.h.length ep 0 0), σ.h ++ [.arr ep sz []]⟩ := by
 rintro E a w hE ⟨m, R⟩
 have hun : σ.h.getD σ.h.length .unborn = .unborn := by simp [List.getD]
 obtain ⟨h1, h2⟩ := R.toHRel.set1 (h' := σ.h ++ [.arr ep sz []]) (o := σ.h.length) (ob' := .arr ep sz []) (loc' := none) (w' := w)
  (fun x => by
   rw [List.getD_eq_getElem?_getD, List.getElem?_append]
   by_cases hx : x < σ.h.length
   ·rw [if_pos hx, if_neg (by omega), List.getD_eq_getElem?_getD]
   ·rw [if_neg hx]
    by_cases hx2 : x = σ.h.length
    ·subst hx2; simp
    ·rw [if_neg hx2, List.getD_eq_getElem?_getD, List.getElem?_eq_none (by simp; omega), List.getElem?_eq_none (by omega)])
  (WExt.refl _ _) (fun d hd => by rw [hun] at hd; cases hd) (fun _ _ h => by cases h)
  (fun D' ok' _ _ => by refine ⟨?_, hsz, Nat.zero_le _, rfl⟩; intro x hx; exact absurd hx List.not_mem_nil)
 refine ⟨_, { toHRel := h1, tsize := by rw [R.tsize]; simp, defers := R.defers, tmps := fun t => ?_ }⟩
 have ht := R.tmps t
 rw [List.getD_eq_getElem?_getD] at ht
 rw [List.getD_eq_getElem?_getD, List.getElem?_set]
 split
 ·rename_i hdt
  subst hdt
  split
  ·have hval : ∃ a0, a.tmps.getD d undef = .slice a0 0 0 := by
    rw [← List.getD_eq_getElem?_getD] at ht
    rcases hd with hd | hd
    ·rw [hd] at ht; exact ⟨none, ht.c_inv⟩
    ·rw [hd] at ht
     generalize a.tmps.getD d undef = u at ht
     cases ht with
     | pure hp => cases hp; exact ⟨_, rfl⟩
   obtain ⟨a0, ha0⟩ := hval
   rw [ha0]
   refine .sl0 _ ep 0 sz none a0 ?_
   rw [dirOf_eq]
   simp [deOf]
  ·exact .junk _
 ·exact h2 _ _ ht

theorem Fin.own1 {T : Tab} {k : Nat} {rs : List ResultVar} {σ : St} {r : V} {objs' : List Ob} (o : Nat) (hko : k ≤ o) (h : finS T σ rs fun x => ren (toIdx (List.range k ++ [o])) x = r) (ho : passed σ.h (List.range k ++ [o]) = objs') : Fin T k rs r objs' σ := by
 obtain ⟨l, h1, h2⟩ := finS_inv h
 refine ⟨[o], l, by simp, by simpa using hko, ho.symm, h1, ?_⟩
 subst h2
 exact retV_ren _

end
end Go.AM
end
section
namespace Go.AM
open Go

section
variable {P : Program}

def Join {α : Type} (k : Nat) (I : α → St) (σ : St) : Prop := ∃ y, Sub k σ (I y)
@[congr] theorem Join_congr {α : Type} {k : Nat} {I : α → St} {σ σ' : St} (h : σ = σ') : Join k I σ = Join k I σ' := by rw [h]

end

theorem ren_arr {μ : Nat → Option Nat} {ep sz : Nat} {es : List (List V)} : (Ob.arr ep sz es).ren μ = .arr ep sz (es.map fun e => e.map (ren0 μ)) := rfl
theorem ren_gone {μ : Nat → Option Nat} : Ob.gone.ren μ = .gone := rfl
theorem ren_unborn {μ : Nat → Option Nat} : Ob.unborn.ren μ = .unborn := rfl

end Go.AM
end
section
namespace Go.AM
open Go

def allP (R : V → V → Prop) : List V → List V → Prop
 | [], [] => True
 | a :: as, b :: bs => R a b ∧ allP R as bs
 | _, _ => False
def allR (R : V → V → Prop) : List (List V) → List (List V) → Prop
 | [], [] => True
 | a :: as, b :: bs => allP R a b ∧ allR R as bs
 | _, _ => False

theorem allP_get {R : V → V → Prop} : ∀ {as bs : List V}, allP R as bs → as.length = bs.length ∧ ∀ (j : Nat) (y : V), bs[j]? = some y → ∃ x, as[j]? = some x ∧ R x y
 | [], [], _ => ⟨rfl, fun j y h => by simp at h⟩
 | a :: as, b :: bs, h => by
  obtain ⟨h1, h2⟩ := allP_get h.2
  refine ⟨by simp [h1], fun j y hy => ?_⟩
  cases j with
  | zero => simp at hy; subst hy; exact ⟨a, rfl, h.1⟩
  | succ j => simpa using h2 j y (by simpa using hy)
 | [], _ :: _, h => h.elim
 | _ :: _, [], h => h.elim
theorem allR_get {R : V → V → Prop} : ∀ {as bs : List (List V)}, allR R as bs → as.length = bs.length ∧ ∀ (i j : Nat) (y : V), (bs[i]?).bind (fun l => l[j]?) = some y → ∃ x, (as[i]?).bind (fun l => l[j]?) = some x ∧ R x y
 | [], [], _ => ⟨rfl, fun i j y h => by simp at h⟩
 | a :: as, b :: bs, h => by
  obtain ⟨h1, h2⟩ := allR_get h.2
  refine ⟨by simp [h1], fun i j y hy => ?_⟩
  cases i with
  | zero => exact (allP_get h.1).2 j y (by simpa using hy)
  | succ i => simpa using h2 i j y (by simpa using hy)
 | [], _ :: _, h => h.elim
 | _ :: _, [], h => h.elim

theorem RetP.rows {lk : Nat → Ob} {sel : List Nat} {o ep sz n : Nat} {es es' : List (List V)} (ho : o ∉ sel) (hl : lk o = .arr ep sz es) (hlen : es.length = n) (hsz : ∀ x ∈ es', x.length = sz) (h : allR (RetP lk sel) es es') : RetP lk sel (.sl o ep 0 n) (.ro sz es') := by
 subst hlen
 obtain ⟨h1, h2⟩ := allR_get h
 refine .sl (fun i j => ((es[i]?).bind fun l => l[j]?).getD .junk) ho hl (by omega) h1.symm hsz (fun i j y hy => ?_) (fun i j y hy => ?_)
 ·obtain ⟨x, hx, _⟩ := h2 i j y hy
  rw [Nat.zero_add, hx]; rfl
 ·obtain ⟨x, hx, hr⟩ := h2 i j y hy
  rw [hx]; exact hr
theorem View.rows {lk : Nat → Ob} {vs : List Nat} {o ep sz n : Nat} {es es' : List (List V)} (ho : o ∈ vs) (hl : lk o = .arr ep sz es) (hlen : es.length = n) (hsz : ∀ x ∈ es', x.length = sz) (h : allR (View lk vs) es es') : View lk vs (.sl o ep 0 n) (.ro sz es') := by
 subst hlen
 obtain ⟨h1, h2⟩ := allR_get h
 refine .sl (fun i j => ((es[i]?).bind fun l => l[j]?).getD .junk) ho hl (by omega) h1.symm hsz (fun i j y hy => ?_) (fun i j y hy => ?_)
 ·obtain ⟨x, hx, _⟩ := h2 i j y hy
  rw [Nat.zero_add, hx]; rfl
 ·obtain ⟨x, hx, hr⟩ := h2 i j y hy
  rw [hx]; exact hr

section
variable {P : Program} {T : Tab} {ops : Array Oper} {d : Bool}

end
end Go.AM
end
section
namespace Go.AM
open Go

end Go.AM
end
section
namespace Go.AM
open Go

def ER (P : Program) (k : Nat) (c : Code) (K : Exit → St → Prop) : Nat → St → Prop
 | 0, _ => False
 | n + 1, σ => EV P k c σ (thenK (ER P k c K n) K)

theorem ER.succ {P : Program} {k : Nat} {c : Code} {K : Exit → St → Prop} {n : Nat} {σ : St} (h : EV P k c σ (thenK (ER P k c K n) K)) : ER P k c K (n + 1) σ := h

@[congr] theorem ER_congr {P : Program} {k : Nat} {c : Code} {K : Exit → St → Prop} {n : Nat} {σ σ' : St} (h : σ = σ') : ER P k c K n σ = ER P k c K n σ' := by rw [h]

theorem Sub.refl' {k : Nat} {σ : St} : Sub k σ σ := fun _ _ _ _ h => h

theorem EV.rounds {P : Program} {k : Nat} {c : Code} {K : Exit → St → Prop} {σ : St} (n : Nat) (h : ER P k c K n σ) : EV P k (.loop c) σ K := by
 refine EV.loop (fun x : { p : Nat × St // ER P k c K p.1 p.2 } => x.1.2) (fun x => x.1.1) ⟨(n, σ), h⟩ Sub.refl' ?_
 rintro ⟨⟨m, s⟩, hm⟩
 cases m with
 | zero => exact hm.elim
 | succ m =>
  refine EV.mono hm ?_
  intro e s' h'
  cases e with
  | normal => exact ⟨⟨(m, s'), h'⟩, Nat.lt_succ_self _, Sub.refl'⟩
  | _ => exact h'

end Go.AM
end
section
namespace Go.AM
open Go

section
variable {P : Program} {T : Tab} {ops : Array Oper} {d : Bool}
theorem guardG_bt {os : List Oper} {dst : Option Nat} {op : Op} {want : Bool} {σ : St} {tr : Trc} {C : St → Trc → Prop} : guardG P T ops d os dst op want σ tr C (.b true) =
  if pureOp op = true then impG (true == want) (pureR (stepG T op σ.ev σ.lk σ.h.length)) ∧
    wpG P T ops d os (St.put σ dst (optV (true == want) (valD (stepG T op σ.ev σ.lk σ.h.length)))) (if d then tr ++ [(if (true == want) = true then touchOf op σ.ev else [], [])] else []) C
   else (true = want → if isCall op = true then callG P T ops d os dst op σ tr C else contG P T ops d os dst (if d then touchOf op σ.ev else []) σ tr C (stepG T op σ.ev σ.lk σ.h.length)) ∧ (true ≠ want → wpG P T ops d os (σ.put dst (.tup [])) (if d then tr ++ [([], [])] else []) C) := guardG_v
theorem guardG_bf {os : List Oper} {dst : Option Nat} {op : Op} {want : Bool} {σ : St} {tr : Trc} {C : St → Trc → Prop} : guardG P T ops d os dst op want σ tr C (.b false) =
  if pureOp op = true then impG (false == want) (pureR (stepG T op σ.ev σ.lk σ.h.length)) ∧
    wpG P T ops d os (St.put σ dst (optV (false == want) (valD (stepG T op σ.ev σ.lk σ.h.length)))) (if d then tr ++ [(if (false == want) = true then touchOf op σ.ev else [], [])] else []) C
   else (false = want → if isCall op = true then callG P T ops d os dst op σ tr C else contG P T ops d os dst (if d then touchOf op σ.ev else []) σ tr C (stepG T op σ.ev σ.lk σ.h.length)) ∧ (false ≠ want → wpG P T ops d os (σ.put dst (.tup [])) (if d then tr ++ [([], [])] else []) C) := guardG_v
end

end Go.AM
end
