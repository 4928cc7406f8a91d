/- The abstract machine's regions, and its logic of code. -/
import Derived.Deep.LoopGhost
import Derived.Scope
import Derived.Test.YtakfpmogpnoibaaGreatDoorMachB
set_option linter.unusedVariables false
set_option linter.unusedSimpArgs false
set_option linter.constructorNameAsVariable false
section
namespace Go.AM
open Go

structure Stp where
 on : Bool
 v : V
 upd : List (Nat × Ob)
 tc : List Nat

instance : Inhabited Stp := ⟨⟨false, .junk, [], []⟩⟩

def offG (x : V) (want : Bool) : Prop := (∃ y, x = .b y ∧ y ≠ want) ∨ x = .tup []

def gval (ops : Array Oper) (ev : Operand → V) (j : Nat) : V :=
 match (ops[j]?).bind (·.dst) with
 | some t => ev (.tmp t)
 | none => .junk

inductive StpOK (P : Program) (T : Tab) (ops : Array Oper) (o : Oper) (ev : Operand → V) (lk : Nat → Ob) (nx : Nat) : Stp → Prop
 | run {v : V} {upd : List (Nat × Ob)} {tc : List Nat} (hg : ∀ j want, o.guard = some (j, want) → gval ops ev j = .b want) (H : OpR P T o.op ev lk nx v upd tc) : StpOK P T ops o ev lk nx ⟨true, v, upd, tc⟩
 | skip {j : Nat} {want : Bool} (hg : o.guard = some (j, want)) (hv : offG (gval ops ev j) want) : StpOK P T ops o ev lk nx ⟨false, .tup [], [], []⟩

def St.after (σ : St) (dst : Option Tmp) (s : Stp) : St := { σ with h := updL σ.h s.upd }.put dst s.v

inductive SeqR (P : Program) (T : Tab) (ops : Array Oper) : List Oper → St → List Stp → St → Prop
 | nil (σ : St) : SeqR P T ops [] σ [] σ
 | cons {o : Oper} {os : List Oper} {σ σ' : St} {s : Stp} {ss : List Stp} (h : StpOK P T ops o σ.ev σ.lk σ.h.length s) (hs : SeqR P T ops os (σ.after o.dst s) ss σ') : SeqR P T ops (o :: os) σ (s :: ss) σ'

section
variable {P : Program} {T : Tab}

theorem wanted_on {ops : Array Oper} {o : Oper} {ev : Operand → V} {tmps : Array Value} {D : Dir} {ok : Nat → Prop} {w : World}
  (hr : ∀ t, VRel D ok w (ev (.tmp t)) (tmps.getD t undef)) {j : Nat} {want x : Bool} (hg : o.guard = some (j, want)) (hv : gval ops ev j = .b x) : Region.wanted o (yielded ops tmps) = (x == want) := by
 unfold Region.wanted
 rw [hg]
 unfold gval at hv
 cases hd : (ops[j]?).bind (·.dst) with
 | none => rw [hd] at hv; cases hv
 | some t =>
  rw [hd] at hv
  have h1 := hr t
  simp only at hv
  rw [hv] at h1
  have h2 := h1.b_inv
  have h3 : tmps[t]? = some (.bool x) := by
   cases hq : tmps[t]? with
   | none => rw [Array.getD_eq_getD_getElem?, hq] at h2; cases h2
   | some u => rw [Array.getD_eq_getD_getElem?, hq] at h2; simpa using h2
  simp only [yielded, hd, Option.bind_some, h3]
  cases x <;> cases want <;> rfl

theorem wanted_tup {ops : Array Oper} {o : Oper} {ev : Operand → V} {tmps : Array Value} {D : Dir} {ok : Nat → Prop} {w : World}
  (hr : ∀ t, VRel D ok w (ev (.tmp t)) (tmps.getD t undef)) {j : Nat} {want : Bool} (hg : o.guard = some (j, want)) (hv : gval ops ev j = .tup []) : Region.wanted o (yielded ops tmps) = false := by
 unfold Region.wanted
 rw [hg]
 unfold gval at hv
 cases hd : (ops[j]?).bind (·.dst) with
 | none => rw [hd] at hv; cases hv
 | some t =>
  rw [hd] at hv
  have h1 := hr t
  simp only at hv
  rw [hv] at h1
  obtain ⟨us, h2, hl, _⟩ := h1.tup_inv
  have : us = [] := List.eq_nil_of_length_eq_zero hl
  subst this
  have h3 : yielded ops tmps j = none := by
   simp only [yielded, hd, Option.bind_some]
   cases hq : tmps[t]? with
   | none => rfl
   | some u => rw [Array.getD_eq_getD_getElem?, hq] at h2; simp at h2; subst h2; rfl
  simp only [h3]
  cases want <;> rfl

theorem wanted_none {ops : Array Oper} {o : Oper} {tmps : Array Value} (hg : o.guard = none) : Region.wanted o (yielded ops tmps) = true := by
 unfold Region.wanted
 rw [hg]

theorem wpOp_stp (hT : TOK P T) {ops : Array Oper} {Q : Exit → Act → World → Prop} {i : Nat} {o : Oper} (ho : ops[i]? = some o) {E : Env} (hG : GOK P E.w0 E.own) {m : Locs} {h : List Ob} {w : World} (R : HRel E m h w) {a : Act} {ev : Operand → V}
  (hr : ∀ x, VRel (dirOf m h) (okc E m h) w (ev x) (a.eval x)) (ht : ∀ t, VRel (dirOf m h) (okc E m h) w (ev (.tmp t)) (a.tmps.getD t undef)) {nx : Nat} {s : Stp} (H : StpOK P T ops o ev (fun o => h.getD o .unborn) nx s) {K : Act → World → Prop}
  (hK : ∀ u w' m', HRel E m' (updL h s.upd) w' → (∀ x y, VRel (dirOf m h) (okc E m h) w x y → VRel (dirOf m' (updL h s.upd)) (okc E m' (updL h s.upd)) w' x y) →
   VRel (dirOf m' (updL h s.upd)) (okc E m' (updL h s.upd)) w' s.v u → K (a.put o.dst u) w') : wpOp P ops Q i K a w := by
 unfold wpOp
 rw [ho]
 show if Region.wanted o (yielded ops a.tmps) = true then _ else _
 cases H with
 | @run v upd tc hg H =>
  have hw : Region.wanted o (yielded ops a.tmps) = true := by
   cases hgd : o.guard with
   | none => exact wanted_none hgd
   | some p => obtain ⟨j, want⟩ := p; rw [wanted_on ht hgd (hg j want hgd)]; simp
  rw [if_pos hw]
  exact .inl (op_sound hT hG R o hr H hK)
 | @skip j want hg hv =>
  have hw : Region.wanted o (yielded ops a.tmps) = false := by
   rcases hv with ⟨x, hv, hne⟩ | hv
   ·rw [wanted_on ht hg hv]; simp [hne]
   ·exact wanted_tup ht hg hv
  rw [hw]
  simp only [Bool.false_eq_true, if_false]
  exact hK undef w m R (fun _ _ h => h) (.tup [] [] rfl (fun j x u hx _ => by simp at hx))

theorem seq_text (hT : TOK P T) {ops : Array Oper} {Q : Exit → Act → World → Prop} {E : Env} (hG : GOK P E.w0 E.own) : ∀ {os : List Oper} {σ σ' : St} {ss : List Stp}, SeqR P T ops os σ ss σ' → ∀ (k : Nat), (∀ j, j < os.length → ops[k + j]? = os[j]?) → ∀ {a : Act} {w : World}, Rel E σ a w →
  (∀ a' w', Rel E σ' a' w' → Q .normal a' w') → wpOps P ops Q (List.range' k os.length) a w
 | _, _, _, _, .nil σ, k, _, a, w, hr, hK => hK a w hr
 | o :: os, σ, σ', s :: ss, .cons h hs, k, hos, a, w, ⟨m, R⟩, hK => by
  have ho : ops[k]? = some o := by have := hos 0 (by simp); simpa using this
  rw [List.length_cons, List.range'_succ, wpOps_cons]
  refine wpOp_stp hT ho hG R.toHRel R.ev R.tmps h fun u w' m' h1 h2 h3 => ?_
  refine seq_text hT hG hs (k + 1) (fun j hj => ?_) ⟨m', ?_⟩ hK
  ·have := hos (j + 1) (by simp; omega)
   rw [show k + 1 + j = k + (j + 1) by omega, this]
   simp
  ·exact (R.turn h1 h2).put o.dst h3

end

end Go.AM
end
section
namespace Go.AM
open Go

def lastW {X Y : Type} (W : Nat → X → Bool) (val : Nat → X → Y) (base : X → Y) (S : Nat → Bool) : Nat → X → Y
 | 0, x => base x
 | k + 1, x => if S k && W k x then val k x else lastW W val base S k x

section
variable {X Y : Type} {W : Nat → X → Bool} {val : Nat → X → Y} {base : X → Y}

theorem lastW_cut {S : Nat → Bool} {i : Nat} {x : X} : ∀ n, i ≤ n → (∀ k, i ≤ k → k < n → S k = true → W k x = false) → lastW W val base S n x = lastW W val base S i x := by
 intro n
 induction n with
 | zero => intro h _; have : i = 0 := by omega
           subst this; rfl
 | succ n ih =>
  intro hi h
  by_cases he : i = n + 1
  ·subst he; rfl
  ·have h1 := ih (by omega) (fun k h1 h2 => h k h1 (by omega))
   simp only [lastW]
   cases hs : S n with
   | false => simpa using h1
   | true => simp [h n (by omega) (by omega) hs, h1]

theorem lastW_same {S S' : Nat → Bool} {x : X} : ∀ i, (∀ k, k < i → W k x = true → S k = S' k) → lastW W val base S i x = lastW W val base S' i x := by
 intro i
 induction i with
 | zero => intro _; rfl
 | succ i ih =>
  intro h
  simp only [lastW]
  rw [ih (fun k hk => h k (by omega))]
  cases hw : W i x with
  | false => simp
  | true => rw [h i (by omega) hw]

theorem lastW_add {S : Nat → Bool} {i n : Nat} {x : X} (hin : i < n) (h : ∀ k, i < k → k < n → S k = true → W k x = false) :
  lastW W val base (fun k => S k || k == i) n x = if W i x then val i x else lastW W val base (fun k => S k && k != i) n x := by
 have h1 : lastW W val base (fun k => S k || k == i) n x = lastW W val base (fun k => S k || k == i) (i + 1) x :=
  lastW_cut n (by omega) (fun k h1 h2 h3 => by
   have : (k == i) = false := by simp; omega
   rw [this, Bool.or_false] at h3
   exact h k (by omega) h2 h3)
 have h2 : lastW W val base (fun k => S k && k != i) n x = lastW W val base (fun k => S k && k != i) (i + 1) x :=
  lastW_cut n (by omega) (fun k h1 h2 h3 => by
   simp at h3
   exact h k (by omega) h2 h3.1)
 rw [h1, h2]
 simp only [lastW, beq_self_eq_true, Bool.or_true, Bool.true_and, bne_self_eq_false, Bool.and_false, Bool.false_and, Bool.false_eq_true, if_false]
 rw [lastW_same i (fun k hk _ => by
  have h3 : (k == i) = false := by simp; omega
  have h4 : (k != i) = true := by simp; omega
  show (S k || k == i) = (S k && k != i)
  rw [h3, h4]; simp)]

end

inductive Reach (ops : Array Oper) : Nat → Nat → Prop
 | one {i j : Nat} {o : Oper} {e : Edge} (ho : ops[j]? = some o) (he : e ∈ o.after) (hb : Region.binds .any e = true) (hi : e.on = i) : Reach ops i j
 | step {i j k : Nat} (h : Reach ops i j) (h' : Reach ops j k) : Reach ops i k

def addAll (l acc : List Nat) : List Nat := l.foldl (fun acc x => if acc.contains x then acc else x :: acc) acc

theorem mem_addAll {x : Nat} : ∀ {l acc : List Nat}, x ∈ addAll l acc → x ∈ l ∨ x ∈ acc
 | [], acc, h => .inr h
 | y :: l, acc, h => by
  have h' : x ∈ addAll l (if acc.contains y then acc else y :: acc) := h
  rcases mem_addAll h' with h1 | h1
  ·exact .inl (by simp [h1])
  ·split at h1
   ·exact .inr h1
   ·rcases List.mem_cons.1 h1 with h2 | h2
    ·exact .inl (by simp [h2])
    ·exact .inr h2

def rowOf (tbl : List (List Nat)) (o : Oper) : List Nat :=
 (o.after.toList.filter (Region.binds .any)).foldl (fun acc e => addAll (e.on :: tbl.getD e.on []) acc) []

def mkTbl : List Oper → List (List Nat) → List (List Nat)
 | [], tbl => tbl
 | o :: os, tbl => mkTbl os (tbl ++ [rowOf tbl o])

theorem mkTbl_ok {ops : Array Oper} : ∀ (os : List Oper) (tbl : List (List Nat)), (∀ j, j < os.length → ops[tbl.length + j]? = os[j]?) → (∀ k row, tbl[k]? = some row → ∀ i ∈ row, Reach ops i k) →
  ∀ k row, (mkTbl os tbl)[k]? = some row → ∀ i ∈ row, Reach ops i k
 | [], tbl, _, h => h
 | o :: os, tbl, hos, h => by
  refine mkTbl_ok os (tbl ++ [rowOf tbl o]) (fun j hj => ?_) (fun k row hk i hi => ?_)
  ·have := hos (j + 1) (by simp; omega)
   rw [List.length_append, List.length_singleton, show tbl.length + 1 + j = tbl.length + (j + 1) by omega, this]
   simp
  ·rw [List.getElem?_append] at hk
   split at hk
   ·exact h k row hk i hi
   ·rename_i hge
    have hk0 : k = tbl.length := by
     have := (List.getElem?_eq_some_iff.1 hk).1
     simp at this
     omega
    subst hk0
    simp at hk
    subst hk
    have ho : ops[tbl.length]? = some o := by have := hos 0 (by simp); simpa using this
    have key : ∀ (es : List Edge) (acc : List Nat), (∀ e ∈ es, e ∈ o.after ∧ Region.binds .any e = true) → (∀ i ∈ acc, Reach ops i tbl.length) →
      ∀ i ∈ es.foldl (fun acc e => addAll (e.on :: tbl.getD e.on []) acc) acc, Reach ops i tbl.length := by
     intro es
     induction es with
     | nil => intro acc _ hacc; exact hacc
     | cons e es ih =>
      intro acc he hacc
      refine ih _ (fun e' h' => he e' (by simp [h'])) fun i hi => ?_
      obtain ⟨h1, h2⟩ := he e (by simp)
      have hone : Reach ops e.on tbl.length := .one ho h1 h2 rfl
      rcases mem_addAll hi with h3 | h3
      ·rcases List.mem_cons.1 h3 with h4 | h4
       ·rw [h4]; exact hone
       ·cases hq : tbl[e.on]? with
        | none => simp [List.getD, hq] at h4
        | some row => exact .step (h e.on row hq i (by simpa [List.getD, hq] using h4)) hone
      ·exact hacc i h3
    exact key _ [] (fun e he => by
     obtain ⟨h1, h2⟩ := List.mem_filter.1 he
     exact ⟨by simpa using h1, h2⟩) (by simp) i hi

def disj (l l' : List Nat) : Bool := l.all fun x => !l'.contains x

def okD (ops : Array Oper) (tr : List (List Nat × List Nat)) : Bool :=
 let tbl := mkTbl ops.toList []
 (List.range ops.size).all fun j => match ops[j]? with
  | none => false
  | some oj => (oj.after.all fun e => !Region.binds .any e || e.on < j) && (List.range j).all fun i => match ops[i]? with
   | none => false
   | some oi => (tbl.getD j []).contains i ||
     (oi.apart ops oj && disj (tr.getD i ([], [])).2 ((tr.getD j ([], [])).1 ++ (tr.getD j ([], [])).2) && disj (tr.getD j ([], [])).2 (tr.getD i ([], [])).1)

theorem okD_pair {ops : Array Oper} {tr : List (List Nat × List Nat)} (h : okD ops tr = true) {i j : Nat} (hij : i < j) {oi oj : Oper} (hi : ops[i]? = some oi) (hj : ops[j]? = some oj) :
  Reach ops i j ∨ (oi.apart ops oj = true ∧ (∀ x ∈ (tr.getD i ([], [])).2, x ∉ (tr.getD j ([], [])).1 ∧ x ∉ (tr.getD j ([], [])).2) ∧ ∀ x ∈ (tr.getD j ([], [])).2, x ∉ (tr.getD i ([], [])).1) := by
 simp only [okD, List.all_eq_true, List.mem_range] at h
 have h1 := h j (Array.getElem?_eq_some_iff.1 hj).1
 rw [hj] at h1
 simp only [Bool.and_eq_true, List.all_eq_true, List.mem_range] at h1
 have h2 := h1.2 i hij
 rw [hi] at h2
 simp only [Bool.or_eq_true, Bool.and_eq_true] at h2
 rcases h2 with h2 | ⟨⟨h2, h3⟩, h4⟩
 ·refine .inl ?_
  have h5 := mkTbl_ok (ops := ops) ops.toList [] (by simp) (by simp) j
  cases hq : (mkTbl ops.toList [])[j]? with
  | none => simp [List.getD, hq] at h2
  | some row => exact h5 row hq i (by simpa [List.getD, hq] using h2)
 ·refine .inr ⟨h2, fun x hx => ?_, fun x hx => ?_⟩
  ·have := List.all_eq_true.1 h3 x hx
   simpa using this
  ·have := List.all_eq_true.1 h4 x hx
   simpa using this

theorem okD_edge {ops : Array Oper} {tr : List (List Nat × List Nat)} (h : okD ops tr = true) {j : Nat} {oj : Oper} (hj : ops[j]? = some oj) : ∀ e ∈ oj.after, Region.binds .any e = true → e.on < j := by
 simp only [okD, List.all_eq_true, List.mem_range] at h
 have h1 := h j (Array.getElem?_eq_some_iff.1 hj).1
 rw [hj] at h1
 simp only [Bool.and_eq_true] at h1
 intro e he hb
 have := Array.all_eq_true_iff_forall_mem.1 h1.1 e he
 simpa [hb] using this

end Go.AM
end
section
namespace Go.AM
open Go

theorem HRel.ext_h {E : Env} {m : Locs} {h h' : List Ob} {w : World} (R : HRel E m h w) (he : ∀ x, h'.getD x .unborn = h.getD x .unborn) :
  HRel E m h' w ∧ dirOf m h' = dirOf m h ∧ okc E m h' = okc E m h := by
 have h1 : dirOf m h' = dirOf m h := by funext x; rw [dirOf_eq, dirOf_eq, he x]
 have h2 : okc E m h' = okc E m h := by
  funext b
  unfold okc
  simp only [he]
 refine ⟨⟨R.ext, ?_, ?_, ?_, ?_, ?_⟩, h1, h2⟩
 ·intro o blk off; rw [he o]; exact R.blk o blk off
 ·intro o o' blk off off'; rw [he o, he o']; exact R.inj o o' blk off off'
 ·intro o; rw [he o, h1, h2]; exact R.obs o
 ·intro o blk off; rw [he o]; exact R.new o blk off
 ·rw [h1]; exact R.dle

def lkU : List (Nat × Ob) → Nat → Option Ob
 | [], _ => none
 | p :: r, x => match lkU r x with
  | some o => some o
  | none => if x = p.1 then some p.2 else none

theorem updL_lkU : ∀ (upd : List (Nat × Ob)) (h : List Ob) (x : Nat), (updL h upd).getD x .unborn = (lkU upd x).getD (h.getD x .unborn)
 | [], h, x => rfl
 | p :: r, h, x => by
  have : updL h (p :: r) = updL (setOb h p.1 p.2) r := rfl
  rw [this, updL_lkU r, getD_setOb]
  simp only [lkU]
  cases lkU r x with
  | some o => rfl
  | none => by_cases hx : x = p.1 <;> simp [hx]

theorem lkU_mem : ∀ (upd : List (Nat × Ob)) (x : Nat), (lkU upd x).isSome = true ↔ x ∈ upd.map (·.1)
 | [], x => by simp [lkU]
 | p :: r, x => by
  simp only [lkU, List.map_cons, List.mem_cons]
  rw [← lkU_mem r x]
  cases hq : lkU r x with
  | some o => simp
  | none => by_cases hx : x = p.1 <;> simp [hx]

def evF (f : Nat → V) : Operand → V
 | .tmp t => f t
 | .const v => toV v
 | .func f => .fn f []
 | .global _ => .junk

theorem ev_evF (σ : St) : σ.ev = evF fun t => σ.t.getD t .junk := by funext x; cases x <;> rfl

theorem CallR.congr {P : Program} {lk lk' : Nat → Ob} {nx : Nat} {f : FuncId} {args : List V} {ρ vs : List Nat} {args' : List V} {r : V} {objs' : List Ob} (H : CallR P lk nx f args ρ vs args' r objs')
  (hl : ∀ o ∈ ρ ++ vs, lk o = lk' o) (hf : ∀ j, j < objs'.length - ρ.length → lk (nx + j) = lk' (nx + j)) : CallR P lk' nx f args ρ vs args' r objs' := by
 have hview : ∀ x x', View lk vs x x' → View lk' vs x x' := by
  intro x x' h
  induction h with
  | pu h => exact .pu h
  | nil sz => exact .nil sz
  | z sz => exact .z sz
  | sl xs ho hlk hle hn hsz hx _ ih => exact .sl xs ho (by rw [← hl _ (by simp [ho])]; exact hlk) hle hn hsz hx ih
 refine ⟨H.nodup, H.disj, H.len, fun j x x' hx hx' => ?_, ?_, H.view, H.more, H.low, fun j hj => by rw [← hf j hj]; exact H.fresh j hj⟩
 ·rcases H.args j x x' hx hx' with h1 | h1 | ⟨cs, cs', h1, h2, h3, h4⟩
  ·exact .inl h1
  ·exact .inr (.inl (hview _ _ h1))
  ·exact .inr (.inr ⟨cs, cs', h1, h2, h3, fun k y y' hy hy' => (h4 k y y' hy hy').imp id (hview _ _)⟩)
 ·have : (ρ.map fun o => (lk' o).ren (toIdx ρ)) = ρ.map fun o => (lk o).ren (toIdx ρ) := List.map_congr_left fun o ho => by rw [hl o (by simp [ho])]
  rw [this]
  exact H.qc

theorem callUpd_keys {ks : List Nat} {objs' : List Ob} (h : objs'.length = ks.length) : (callUpd ks objs').map (·.1) = ks := by
 unfold callUpd
 rw [List.map_fst_zip]
 simp [h]

theorem OpR.congr {P : Program} {T : Tab} {op : Op} {ev ev' : Operand → V} {lk lk' : Nat → Ob} {nx : Nat} {v : V} {upd : List (Nat × Ob)} {tc : List Nat} (H : OpR P T op ev lk nx v upd tc)
  (he : ∀ x ∈ op.operands, ev x = ev' x) (hl : ∀ o, o ∈ tc ∨ o ∈ upd.map (·.1) → lk o = lk' o) : OpR P T op ev' lk' nx v upd tc := by
 cases H with
 | step hn hs =>
  have h1 : touchOf op ev = touchOf op ev' := by
   have hm : ∀ c : Call, (∀ x ∈ c.args, ev x = ev' x) → (c.args.toList.flatMap fun x => hid (ev x)) = c.args.toList.flatMap fun x => hid (ev' x) := by
    intro c hc
    simp only [List.flatMap_def]
    congr 1
    exact List.map_congr_left fun x hx => by rw [hc x (by simpa using hx)]
   cases op <;> simp only [touchOf] <;> simp only [Op.operands] at he <;> first
    | rfl
    | (rename_i x; rw [he x (by simp)])
    | (rename_i x _; rw [he x (by simp)])
    | (rename_i x _ _; rw [he x (by simp)])
    | (rename_i x _ _ _; rw [he x (by simp)])
    | (rename_i c; exact hm c fun x hx => he x (by simp [Call.operands]; exact .inr hx))
  rw [h1]
  refine .step (fun hx => by rw [← hl nx (.inr hx)]; exact hn hx) ?_
  rw [← step_congr he (fun o ho => hl o (.inl ho))]
  exact hs
 | @call c fo f cap ρ vs args' r objs' L hop hc hf H =>
  subst hop
  have h1 : c.args.toList.map ev = c.args.toList.map ev' := List.map_congr_left fun x hx => he x (by simp [Op.operands, Call.operands]; exact .inr (by simpa using hx))
  have h2 : ev fo = ev' fo := he fo (by simp [Op.operands, Call.operands, hc])
  refine .call (L := L) (args' := args') rfl hc (by rw [← h1, ← h2]; exact hf) ?_
  have hk := callUpd_keys (ks := keys ρ nx objs'.length) (objs' := objs') (keys_length ρ nx objs'.length H.more).symm
  refine H.congr (fun o ho => hl o (.inl ho)) fun j hj => hl _ (.inr ?_)
  rw [hk]
  unfold keys
  refine List.mem_append.2 (.inr (List.mem_map.2 ⟨j, by simpa using hj, rfl⟩))

theorem StpOK.congr {P : Program} {T : Tab} {ops : Array Oper} {o : Oper} {ev ev' : Operand → V} {lk lk' : Nat → Ob} {nx : Nat} {s : Stp} (H : StpOK P T ops o ev lk nx s)
  (he : ∀ x ∈ o.op.operands, ev x = ev' x) (hg : ∀ t, t ∈ o.looksAt ops → ev (.tmp t) = ev' (.tmp t)) (hl : ∀ x, x ∈ s.tc ∨ x ∈ s.upd.map (·.1) → lk x = lk' x) : StpOK P T ops o ev' lk' nx s := by
 have hgv : ∀ j want, o.guard = some (j, want) → gval ops ev j = gval ops ev' j := by
  intro j want hgd
  unfold gval
  cases hq : (ops[j]?).bind (·.dst) with
  | none => rfl
  | some t =>
   refine hg t ?_
   simp only [Oper.looksAt, hgd, hq]
   simp
 cases H with
 | run hgd H => exact .run (fun j want h => by rw [← hgv j want h]; exact hgd j want h) (H.congr he hl)
 | skip hgd hv => exact .skip hgd (by rw [← hgv _ _ hgd]; exact hv)

section
variable {P : Program} {T : Tab} {ops : Array Oper}

def dstOf (ops : Array Oper) (k : Nat) : Option Tmp := (ops[k]?).bind (·.dst)

def sts (ops : Array Oper) (ss : List Stp) (σ : St) : Nat → St
 | 0 => σ
 | k + 1 => (sts ops ss σ k).after (dstOf ops k) (ss.getD k default)

theorem seq_sts : ∀ {os : List Oper} {σ σ' : St} {ss : List Stp}, SeqR P T ops os σ ss σ' → ∀ (b : Nat) (σ0 : St) (sall : List Stp), (∀ j, j < os.length → ops[b + j]? = os[j]?) → (∀ j, j < os.length → sall[b + j]? = ss[j]?) → σ = sts ops sall σ0 b →
  ss.length = os.length ∧ σ' = sts ops sall σ0 (b + os.length) ∧ ∀ j o, os[j]? = some o → StpOK P T ops o (sts ops sall σ0 (b + j)).ev (sts ops sall σ0 (b + j)).lk (sts ops sall σ0 (b + j)).h.length (sall.getD (b + j) default)
 | _, _, _, _, .nil σ, b, σ0, sall, _, _, h => ⟨rfl, h, fun j o ho => by simp at ho⟩
 | o :: os, σ, σ', s :: ss, .cons hst hs, b, σ0, sall, hos, hss, h => by
  have h0 : ops[b]? = some o := by have := hos 0 (by simp); simpa using this
  have hs0 : sall[b]? = some s := by have := hss 0 (by simp); simpa using this
  have hnext : σ.after o.dst s = sts ops sall σ0 (b + 1) := by
   show _ = (sts ops sall σ0 b).after (dstOf ops b) (sall.getD b default)
   rw [← h]
   simp [dstOf, h0, List.getD, hs0]
  obtain ⟨h1, h2, h3⟩ := seq_sts hs (b + 1) σ0 sall (fun j hj => by
    have := hos (j + 1) (by simp; omega)
    rw [show b + 1 + j = b + (j + 1) by omega, this]; simp) (fun j hj => by
    have := hss (j + 1) (by simp; omega)
    rw [show b + 1 + j = b + (j + 1) by omega, this]; simp) hnext
  refine ⟨by simp [h1], by rw [h2, List.length_cons]; congr 1; omega, fun j o' ho' => ?_⟩
  cases j with
  | zero =>
   simp at ho'
   subst ho'
   rw [Nat.add_zero, ← h, List.getD, hs0]
   exact hst
  | succ j =>
   have := h3 j o' (by simpa using ho')
   rwa [show b + 1 + j = b + (j + 1) by omega] at this

def Wt (ops : Array Oper) (len : Nat) (k t : Nat) : Bool := dstOf ops k == some t && decide (t < len)
def Wh (ss : List Stp) (k x : Nat) : Bool := (lkU (ss.getD k default).upd x).isSome
def slotS (ops : Array Oper) (ss : List Stp) (σ : St) (S : Nat → Bool) : Nat → Nat → V := lastW (Wt ops σ.t.length) (fun k _ => (ss.getD k default).v) (fun t => σ.t.getD t .junk) S
def heapS (ss : List Stp) (σ : St) (S : Nat → Bool) : Nat → Nat → Ob := lastW (Wh ss) (fun k x => (lkU (ss.getD k default).upd x).getD .unborn) (fun x => σ.h.getD x .unborn) S

theorem sts_len (ss : List Stp) (σ : St) : ∀ k, (sts ops ss σ k).t.length = σ.t.length
 | 0 => rfl
 | k + 1 => by
  show ((sts ops ss σ k).after _ _).t.length = _
  unfold St.after St.put
  cases dstOf ops k with
  | none => exact sts_len ss σ k
  | some d => simp [sts_len ss σ k]

theorem sts_slot (ss : List Stp) (σ : St) : ∀ k t, (sts ops ss σ k).t.getD t .junk = slotS ops ss σ (fun _ => true) k t
 | 0, t => rfl
 | k + 1, t => by
  have ih := sts_slot ss σ k t
  have hl := sts_len (ops := ops) ss σ k
  show ((sts ops ss σ k).after (dstOf ops k) (ss.getD k default)).t.getD t .junk = _
  simp only [slotS, lastW, Bool.true_and] at ih ⊢
  rw [← ih]
  unfold St.after St.put Wt
  cases hd : dstOf ops k with
  | none =>
   have h1 : ((none : Option Tmp) == some t) = false := rfl
   simp only [h1, Bool.false_and, Bool.false_eq_true, if_false]
  | some d =>
   by_cases hdt : d = t
   ·subst hdt
    by_cases hlt : d < σ.t.length
    ·have hlt' : d < (sts ops ss σ k).t.length := by rw [hl]; exact hlt
     simp [hlt, List.getD, hlt']
    ·have hge : (sts ops ss σ k).t.length ≤ d := by rw [hl]; exact Nat.le_of_not_lt hlt
     simp only [hlt, decide_false, Bool.and_false, Bool.false_eq_true, if_false]
     rw [List.set_eq_of_length_le hge]
   ·have h1 : (some d == some t) = false := by simpa using hdt
    simp only [h1, Bool.false_and, Bool.false_eq_true, if_false]
    simp [List.getD, List.getElem?_set_ne hdt]

theorem sts_heap (ss : List Stp) (σ : St) : ∀ k x, (sts ops ss σ k).h.getD x .unborn = heapS ss σ (fun _ => true) k x
 | 0, x => rfl
 | k + 1, x => by
  have ih := sts_heap ss σ k x
  have hh : (sts ops ss σ (k + 1)).h = updL (sts ops ss σ k).h (ss.getD k default).upd := by
   show ((sts ops ss σ k).after _ _).h = _
   unfold St.after St.put
   cases dstOf ops k <;> rfl
  rw [hh, updL_lkU, ih]
  simp only [heapS, lastW, Wh, Bool.true_and]
  cases lkU (ss.getD k default).upd x <;> simp

end

end Go.AM
end
section
namespace Go.AM
open Go

section
variable {P : Program} {T : Tab} {ops : Array Oper}

def RS (E : Env) (ops : Array Oper) (ss : List Stp) (σ : St) (S : Nat → Bool) (a : Act) (w : World) : Prop :=
 ∃ m h, HRel E m h w ∧ (∀ x, h.getD x .unborn = heapS ss σ S ops.size x) ∧ a.tmps.size = σ.t.length ∧ a.defers = E.df ∧
  ∀ t, VRel (dirOf m h) (okc E m h) w (slotS ops ss σ S ops.size t) (a.tmps.getD t undef)

theorem RS.eval {E : Env} {ss : List Stp} {σ : St} {S : Nat → Bool} {a : Act} {w : World} {m : Locs} {h : List Ob}
  (hs : ∀ t, VRel (dirOf m h) (okc E m h) w (slotS ops ss σ S ops.size t) (a.tmps.getD t undef)) (x : Operand) : VRel (dirOf m h) (okc E m h) w (evF (slotS ops ss σ S ops.size) x) (a.eval x) := by
 cases x with
 | tmp t => exact hs t
 | const v => exact toV_rel v
 | func f => exact .fn f [] [] rfl (fun j x u hx => by simp at hx)
 | global g => exact .junk _

def listedS (listed : Array Bool) (k : Nat) : Bool := listed.getD k false

theorem listedS_set {listed : Array Bool} {i : Nat} (hi : i < listed.size) : listedS (listed.setIfInBounds i true) = fun k => listedS listed k || k == i := by
 funext k
 unfold listedS
 by_cases hk : i = k
 ·subst hk
  simp [hi]
 ·have h1 : (k == i) = false := by simpa using fun h => hk h.symm
  rw [h1, Bool.or_false]
  exact getD_set_ne false hk

def Closed (ops : Array Oper) (S : Nat → Bool) : Prop := ∀ (j : Nat) (o : Oper), S j = true → ops[j]? = some o → ∀ e ∈ o.after, Region.binds .any e = true → S e.on = true

theorem Closed.reach {S : Nat → Bool} (hc : Closed ops S) {i j : Nat} (h : Reach ops i j) : S j = true → S i = true := by
 induction h with
 | one ho he hb hi => intro hs; rw [← hi]; exact hc _ _ hs ho _ he hb
 | step _ _ ih1 ih2 => exact fun hs => ih1 (ih2 hs)

theorem ready_reach {S : Nat → Bool} (hc : Closed ops S) {k i : Nat} (h : Reach ops k i) : ∀ {o : Oper}, ops[i]? = some o → (∀ e ∈ o.after, Region.binds .any e = true → S e.on = true) → S k = true := by
 induction h with
 | one ho he hb hi => intro o ho' hr; rw [ho] at ho'; cases ho'; rw [← hi]; exact hr _ he hb
 | step h1 _ _ ih2 => intro o ho hr; exact hc.reach h1 (ih2 ho hr)

theorem any_order (hT : TOK P T) {Q : Exit → Act → World → Prop} {E : Env} (hG : GOK P E.w0 E.own) {σ σ' : St} {ss : List Stp} (hseq : SeqR P T ops ops.toList σ ss σ') (hok : okD ops (ss.map fun s => (s.tc, s.upd.map (·.1))) = true)
  (hK : ∀ a' w', Rel E σ' a' w' → Q .normal a' w') :
  ∀ (fuel : Nat) (listed : Array Bool) (a : Act) (w : World), listed.size = ops.size → Closed ops (listedS listed) → ((List.range ops.size).filter fun k => !listedS listed k).length ≤ fuel → RS E ops ss σ (listedS listed) a w →
   wpAny P .any ops Q fuel listed a w := by
 obtain ⟨hlen, hfin, hall⟩ := seq_sts hseq 0 σ ss (fun j _ => by simp) (fun j _ => by simp) rfl
 simp only [Nat.zero_add] at hfin hall
 have hlen' : ss.length = ops.size := by rw [hlen]; simp
 have htr : ∀ k, (ss.map fun s => (s.tc, s.upd.map (·.1))).getD k ([], []) = ((ss.getD k default).tc, (ss.getD k default).upd.map (·.1)) := by
  intro k
  simp only [List.getD, List.getElem?_map]
  cases ss[k]? <;> rfl
 -- the end
 have hend : ∀ (listed : Array Bool) (a : Act) (w : World), (∀ k, k < ops.size → listedS listed k = true) → RS E ops ss σ (listedS listed) a w → Q .normal a w := by
  rintro listed a w hl ⟨m, h, R, hh, hsz, hdf, hs⟩
  refine hK a w ?_
  have hS : ∀ {X Y : Type} (W : Nat → X → Bool) (val : Nat → X → Y) (base : X → Y) (x : X), lastW W val base (listedS listed) ops.size x = lastW W val base (fun _ => true) ops.size x :=
   fun W val base x => lastW_same _ fun k hk _ => hl k hk
  have hh' : ∀ x, σ'.h.getD x .unborn = h.getD x .unborn := by
   intro x
   rw [hfin, sts_heap, hh x]
   simp only [Array.length_toList]
   exact (hS _ _ _ _).symm
  obtain ⟨R', hd, hk⟩ := R.ext_h hh'
  refine ⟨m, { toHRel := R', tsize := ?_, defers := hdf, tmps := fun t => ?_ }⟩
  ·rw [hfin, sts_len]; exact hsz
  ·rw [hd, hk, hfin, sts_slot]
   have := hs t
   simp only [slotS] at this ⊢
   rw [hS] at this
   simpa using this
 intro fuel
 induction fuel with
 | zero =>
  intro listed a w hsz hcl hcnt hrs
  have hl : ∀ k, k < ops.size → listedS listed k = true := by
   intro k hk
   have h0 : (List.range ops.size).filter (fun k => !listedS listed k) = [] := List.eq_nil_of_length_eq_zero (by omega)
   cases hq : listedS listed k with
   | true => rfl
   | false =>
    have : k ∈ (List.range ops.size).filter (fun k => !listedS listed k) := List.mem_filter.2 ⟨List.mem_range.2 hk, by simp [hq]⟩
    rw [h0] at this; cases this
  refine ⟨?_, hend listed a w hl hrs⟩
  unfold Region.ready
  rw [List.filter_eq_nil_iff]
  intro k hk
  have hk' := List.mem_range.1 hk
  have := hl k hk'
  have h2 : listed.getD k true = true := by
   have hlt : k < listed.size := by omega
   unfold listedS at this
   simpa [hlt] using this
  simp [h2]
 | succ fuel ih =>
  intro listed a w hsz hcl hcnt hrs
  refine ⟨fun hnil => ?_, fun i hi => ?_⟩
  ·-- nothing is ready: all has run
   refine hend listed a w (fun k hk => ?_) hrs
   induction k using Nat.strongRecOn with
   | _ k ihk =>
    cases hq : listedS listed k with
    | true => rfl
    | false =>
     exfalso
     have hko : ops[k]? = some ops[k] := by simp [hk]
     have hmem : k ∈ Region.ready .any ops listed := by
      refine mem_ready.2 ⟨?_, ops[k], hko, fun e he hb => ?_⟩
      ·have hlt : k < listed.size := by omega
       unfold listedS at hq
       simpa [hlt] using hq
      ·have := okD_edge hok hko e he hb
       exact ihk e.on this (by omega)
     rw [hnil] at hmem
     cases hmem
  ·obtain ⟨hun, oi, hoi, hrd⟩ := mem_ready.1 hi
   have hin : i < ops.size := (Array.getElem?_eq_some_iff.1 hoi).1
   have hil : i < listed.size := by omega
   have hni : listedS listed i = false := by
    unfold listedS
    simpa [hil] using hun
   obtain ⟨m, h, R, hh, htsz, hdf, hs⟩ := hrs
   have hrd' : ∀ e ∈ oi.after, Region.binds .any e = true → listedS listed e.on = true := hrd
   -- later ones that have run have nothing in common with i; earlier ones that matter have run
   have hlater : ∀ k, i < k → k < ops.size → listedS listed k = true → ∃ ok, ops[k]? = some ok ∧ oi.apart ops ok = true ∧
     (∀ x ∈ (ss.getD i default).upd.map (·.1), x ∉ (ss.getD k default).tc ∧ x ∉ (ss.getD k default).upd.map (·.1)) ∧ ∀ x ∈ (ss.getD k default).upd.map (·.1), x ∉ (ss.getD i default).tc := by
    intro k hik hk hS
    have hko : ops[k]? = some ops[k] := by simp [hk]
    rcases okD_pair hok hik hoi hko with h1 | ⟨h1, h2, h3⟩
    ·have := hcl.reach h1 hS
     rw [hni] at this; cases this
    ·rw [htr i, htr k] at h2 h3
     exact ⟨_, hko, h1, h2, h3⟩
   have hearlier : ∀ k, k < i → listedS listed k = false → ∃ ok, ops[k]? = some ok ∧ ok.apart ops oi = true ∧
     (∀ x ∈ (ss.getD k default).upd.map (·.1), x ∉ (ss.getD i default).tc ∧ x ∉ (ss.getD i default).upd.map (·.1)) := by
    intro k hki hS
    have hk : k < ops.size := by omega
    have hko : ops[k]? = some ops[k] := by simp [hk]
    rcases okD_pair hok hki hko hoi with h1 | ⟨h1, h2, h3⟩
    ·have := ready_reach hcl h1 hoi hrd'
     rw [hS] at this; cases this
    ·rw [htr i, htr k] at h2
     exact ⟨_, hko, h1, h2⟩
   have hslot : ∀ t, t ∈ oi.looksAt ops → slotS ops ss σ (listedS listed) ops.size t = (sts ops ss σ i).t.getD t .junk := by
    intro t ht
    rw [sts_slot]
    unfold slotS
    rw [lastW_cut (i := i) ops.size (by omega) (fun k h1 h2 h3 => by
     by_cases hk : k = i
     ·subst hk; rw [hni] at h3; cases h3
     ·obtain ⟨ok, hok', hap, _⟩ := hlater k (by omega) h2 h3
      obtain ⟨_, _, h6⟩ := Oper.apart_spec hap
      unfold Wt dstOf
      rw [hok']
      simp only [Option.bind_some]
      cases hd : ok.dst with
      | none => rfl
      | some d =>
       have hne : d ≠ t := fun he => h6 d hd (he ▸ ht)
       simp [hne])]
    refine lastW_same i fun k hk hw => ?_
    cases hq : listedS listed k with
    | true => rfl
    | false =>
     obtain ⟨ok, hok', hap, _⟩ := hearlier k hk hq
     obtain ⟨h4, _, _⟩ := Oper.apart_spec hap
     exfalso
     unfold Wt dstOf at hw
     rw [hok'] at hw
     simp only [Option.bind_some, Bool.and_eq_true, beq_iff_eq] at hw
     exact h4 t hw.1 ht
   have hobj : ∀ x, x ∈ (ss.getD i default).tc ∨ x ∈ (ss.getD i default).upd.map (·.1) → heapS ss σ (listedS listed) ops.size x = (sts ops ss σ i).h.getD x .unborn := by
    intro x hx
    rw [sts_heap]
    unfold heapS
    rw [lastW_cut (i := i) ops.size (by omega) (fun k h1 h2 h3 => by
     by_cases hk : k = i
     ·subst hk; rw [hni] at h3; cases h3
     ·obtain ⟨ok, _, _, h4, h5⟩ := hlater k (by omega) h2 h3
      unfold Wh
      cases hq : (lkU (ss.getD k default).upd x).isSome with
      | false => rfl
      | true =>
       have hm := (lkU_mem _ _).1 hq
       rcases hx with hx | hx
       ·exact absurd hx (h5 x hm)
       ·exact absurd hm (h4 x hx).2)]
    refine lastW_same i fun k hk hw => ?_
    cases hq : listedS listed k with
    | true => rfl
    | false =>
     obtain ⟨ok, _, _, h4⟩ := hearlier k hk hq
     exfalso
     have hm := (lkU_mem _ _).1 hw
     rcases hx with hx | hx
     ·exact (h4 x hm).1 hx
     ·exact (h4 x hm).2 hx
   have hstp := hall i oi (by simpa using hoi)
   have hstp' : StpOK P T ops oi (evF (slotS ops ss σ (listedS listed) ops.size)) (fun o => h.getD o .unborn) (sts ops ss σ i).h.length (ss.getD i default) := by
    refine hstp.congr (fun x hx => ?_) (fun t ht => ?_) (fun x hx => ?_)
    ·rw [ev_evF]
     cases x with
     | tmp t =>
      refine (hslot t ?_).symm
      unfold Oper.looksAt
      refine List.mem_append_left _ (List.mem_filterMap.2 ⟨.tmp t, by simpa using hx, rfl⟩)
     | _ => rfl
    ·rw [ev_evF]; exact (hslot t ht).symm
    ·show (sts ops ss σ i).h.getD x .unborn = h.getD x .unborn
     rw [hh x]; exact (hobj x hx).symm
   refine wpOp_stp hT hoi hG R (fun x => RS.eval hs x) hs hstp' fun u w' m' h1 h2 h3 => ?_
   refine ih _ _ _ (by simpa using hsz) ?_ ?_ ⟨m', _, h1, ?_, ?_, ?_, ?_⟩
   ·-- closed
    rw [listedS_set hil]
    intro j o hj ho e he hb
    simp only [Bool.or_eq_true, beq_iff_eq] at hj ⊢
    rcases hj with hj | rfl
    ·exact .inl (hcl j o hj ho e he hb)
    ·rw [hoi] at ho; cases ho
     exact .inl (hrd' e he hb)
   ·-- fewer are left
    rw [listedS_set hil]
    have hsub : ((List.range ops.size).filter fun k => !(listedS listed k || k == i)).length < ((List.range ops.size).filter fun k => !listedS listed k).length := by
     have h5 : ((List.range ops.size).filter fun k => !(listedS listed k || k == i)) = ((List.range ops.size).filter fun k => !listedS listed k).filter fun k => !(k == i) := by
      rw [List.filter_filter]
      congr 1
      funext k
      cases listedS listed k <;> cases (k == i) <;> rfl
     rw [h5]
     have hmem : i ∈ (List.range ops.size).filter fun k => !listedS listed k := List.mem_filter.2 ⟨List.mem_range.2 hin, by simp [hni]⟩
     refine List.length_filter_lt_length_iff_exists.2 ⟨i, hmem, by simp⟩
    show ((List.range ops.size).filter fun k => !(listedS listed k || k == i)).length ≤ fuel
    omega
   ·-- the objects
    intro x
    rw [updL_lkU, hh x, listedS_set hil]
    by_cases hw : Wh ss i x = true
    ·have hm := (lkU_mem _ _).1 hw
     unfold heapS
     rw [lastW_add hin (fun k h4 h5 h6 => by
      obtain ⟨_, _, _, h7, _⟩ := hlater k h4 h5 h6
      unfold Wh
      cases hq : (lkU (ss.getD k default).upd x).isSome with
      | false => rfl
      | true => exact absurd ((lkU_mem _ _).1 hq) (h7 x hm).2), if_pos hw]
     unfold Wh at hw
     cases hq : lkU (ss.getD i default).upd x with
     | none => rw [hq] at hw; cases hw
     | some ob => rfl
    ·have hw' : lkU (ss.getD i default).upd x = none := by
      unfold Wh at hw
      cases hq : lkU (ss.getD i default).upd x with
      | none => rfl
      | some ob => rw [hq] at hw; exact absurd rfl hw
     rw [hw']
     simp only [Option.getD_none]
     unfold heapS
     refine lastW_same _ fun k hk hwk => ?_
     by_cases hki : k = i
     ·subst hki; exact absurd hwk hw
     ·simp [hki]
   ·cases hd : oi.dst <;> simp [Act.put, htsz]
   ·cases hd : oi.dst <;> simp [Act.put, hdf]
   ·-- the slots
    intro t
    rw [listedS_set hil]
    by_cases hw : Wt ops σ.t.length i t = true
    ·have hw2 := hw
     unfold Wt dstOf at hw2
     rw [hoi] at hw2
     simp only [Option.bind_some, Bool.and_eq_true, beq_iff_eq, decide_eq_true_eq] at hw2
     obtain ⟨hd, hlt⟩ := hw2
     unfold slotS
     rw [lastW_add hin (fun k h4 h5 h6 => by
      obtain ⟨ok, hok', hap, _⟩ := hlater k h4 h5 h6
      obtain ⟨_, h8, _⟩ := Oper.apart_spec hap
      unfold Wt dstOf
      rw [hok']
      simp only [Option.bind_some]
      have := h8 t hd
      simp [this]), if_pos hw]
     have hget : (a.put oi.dst u).tmps.getD t undef = u := by
      rw [hd]
      have : t < a.tmps.size := by omega
      simp [Act.put, this]
     rw [hget]
     exact h3
    ·have hsame : slotS ops ss σ (fun k => listedS listed k || k == i) ops.size t = slotS ops ss σ (listedS listed) ops.size t := by
      unfold slotS
      refine lastW_same _ fun k hk hwk => ?_
      by_cases hki : k = i
      ·subst hki; exact absurd hwk hw
      ·simp [hki]
     rw [hsame]
     have hget : (a.put oi.dst u).tmps.getD t undef = a.tmps.getD t undef := by
      cases hd : oi.dst with
      | none => rfl
      | some d =>
       by_cases hdt : d = t
       ·subst hdt
        have hge : ¬ d < a.tmps.size := by
         intro hlt
         apply hw
         unfold Wt dstOf
         rw [hoi]
         simp only [Option.bind_some, hd]
         rw [htsz] at hlt
         simp [hlt]
        simp [Act.put, hge]
       ·simp [Act.put, Array.getElem?_setIfInBounds_ne hdt]
     rw [hget]
     exact h2 _ _ (hs t)

theorem WExt.drawn {S : Nat → Prop} {w0 w : World} (h : WExt S w0 w) : WExt S w0 { w with drawn := w.drawn + 1 } := ⟨h.os, h.tape, h.output, h.size, h.block, h.shape⟩

theorem Rel.draw {E : Env} {σ : St} {a : Act} {w : World} (R : Rel E σ a w) : Rel E σ a { w with drawn := w.drawn + 1 } := by
 obtain ⟨m, R⟩ := R
 have hv : ∀ x u, VRel (dirOf m σ.h) (okc E m σ.h) w x u → VRel (dirOf m σ.h) (okc E m σ.h) { w with drawn := w.drawn + 1 } x u :=
  fun x u h => h.mono (fun o d hd => ⟨d, hd, .refl d⟩) (Nat.le_refl _) (fun b _ hb => ⟨hb, rfl⟩) (fun b c e fr h => ⟨c, fr, h, rfl⟩)
 exact ⟨m, { ext := R.ext.drawn, blk := R.blk, inj := R.inj, obs := fun o => (R.obs o).mono hv (fun _ _ _ _ => rfl), new := R.new, dle := R.dle, tsize := R.tsize, defers := R.defers, tmps := fun t => hv _ _ (R.tmps t) }⟩

theorem region_text (hT : TOK P T) {Q : Exit → Act → World → Prop} {E : Env} (hG : GOK P E.w0 E.own) {id : Nat} {σ σ' : St} {ss : List Stp} (hseq : SeqR P T ops ops.toList σ ss σ') {a : Act} {w : World} (R : Rel E σ a w)
  (hK : ∀ a' w', Rel E σ' a' w' → Q .normal a' w') : (Code.region id ops false).wp P Q a w := by
 refine wp_region ?_
 have := seq_text hT (Q := Q) hG hseq 0 (fun j _ => by simp) R hK
 rw [Array.length_toList, ← List.range_eq_range'] at this
 exact this

theorem region_draw (hT : TOK P T) (hm : P.follows .mixedOrders = true) {Q : Exit → Act → World → Prop} {E : Env} (hG : GOK P E.w0 E.own) {id : Nat} {σ σ' : St} {ss : List Stp} (hseq : SeqR P T ops ops.toList σ ss σ')
  (hok : okD ops (ss.map fun s => (s.tc, s.upd.map (·.1))) = true) {a : Act} {w : World} (R : Rel E σ a w)
  (hK : ∀ a' w', Rel E σ' a' w' → Q .normal a' w') : (Code.region id ops true).wp P Q a w := by
 refine wp_region_any hm ?_
 have hl : ∀ k, listedS (Array.replicate ops.size false) k = false := by
  intro k
  unfold listedS
  by_cases hk : k < ops.size <;> simp [hk]
 refine any_order hT hG hseq hok hK ops.size _ a _ (by simp) (fun j o hj => by rw [hl j] at hj; cases hj) ?_ ?_
 ·exact Nat.le_trans (List.length_filter_le _ _) (by simp)
 ·obtain ⟨m, R⟩ := R.draw
  have h0 : ∀ {X Y : Type} (W : Nat → X → Bool) (val : Nat → X → Y) (base : X → Y) (x : X), lastW W val base (listedS (Array.replicate ops.size false)) ops.size x = base x :=
   fun W val base x => lastW_cut (i := 0) ops.size (Nat.zero_le _) (fun k _ _ hk => by rw [hl k] at hk; cases hk)
  refine ⟨m, σ.h, R.toHRel, fun x => by unfold heapS; rw [h0], R.tsize, R.defers, fun t => ?_⟩
  have := R.tmps t
  unfold slotS
  rw [h0]
  exact this

end

end Go.AM
end
section
namespace Go.AM
open Go

def EnvOK (k : Nat) (E : Env) : Prop := ∀ o d, E.d0 o = some d → o < k
def EnvP (P : Program) (k : Nat) (E : Env) : Prop := EnvOK k E ∧ GOK P E.w0 E.own

def EV (P : Program) (k : Nat) (c : Code) (σ : St) (K : Exit → St → Prop) : Prop :=
 ∀ (E : Env) (a : Act) (w : World), EnvP P k E → Rel E σ a w → c.wp P (fun e a' w' => ∃ σ', K e σ' ∧ Rel E σ' a' w') a w

def thenK (N : St → Prop) (K : Exit → St → Prop) : Exit → St → Prop
 | .normal, σ => N σ
 | e, σ => K e σ

def blockK (id : Nat) (K : Exit → St → Prop) : Exit → St → Prop
 | .exit i, σ => if i = id then K .normal σ else K (.exit i) σ
 | e, σ => K e σ

def scopeK (K : Exit → St → Prop) : Exit → St → Prop
 | .goto _, _ => False
 | e, σ => K e σ

def Sub (k : Nat) (σ σ' : St) : Prop := ∀ (E : Env) (a : Act) (w : World), EnvOK k E → Rel E σ a w → Rel E σ' a w

section
variable {P : Program} {T : Tab} {k : Nat} {K : Exit → St → Prop} {σ : St}

theorem EV.mono {c : Code} {K' : Exit → St → Prop} (h : EV P k c σ K) (hk : ∀ e σ', K e σ' → K' e σ') : EV P k c σ K' :=
 fun E a w hE hr => wp_mono (h E a w hE hr) fun _ _ _ ⟨σ', h1, h2⟩ => ⟨σ', hk _ _ h1, h2⟩

theorem EV.sub {c : Code} {σ' : St} (hs : Sub k σ σ') (h : EV P k c σ' K) : EV P k c σ K := fun E a w hE hr => h E a w hE (hs E a w hE.1 hr)

theorem EV.skip (h : K .normal σ) : EV P k .skip σ K := fun _ _ _ _ hr => wp_skip ⟨σ, h, hr⟩
theorem EV.label {l : Nat} (h : K .normal σ) : EV P k (.label l) σ K := fun _ _ _ _ hr => wp_label ⟨σ, h, hr⟩
theorem EV.exit {id : Nat} (h : K (.exit id) σ) : EV P k (.exit id) σ K := fun _ _ _ _ hr => wp_exit ⟨σ, h, hr⟩
theorem EV.ret (h : K .ret σ) : EV P k .ret σ K := fun _ _ _ _ hr => wp_ret ⟨σ, h, hr⟩

theorem EV.seq {x y : Code} (h : EV P k x σ (thenK (fun σ' => EV P k y σ' K) K)) : EV P k (.seq x y) σ K := by
 intro E a w hE hr
 refine wp_seq (wp_mono (h E a w hE hr) ?_)
 rintro e a' w' ⟨σ', h1, h2⟩
 cases e with
 | normal => exact h1 E a' w' hE h2
 | _ => exact ⟨σ', h1, h2⟩

theorem EV.cond {c : Operand} {x y : Code} {t : Bool} (hc : σ.ev c = .b t) (ht : t = true → EV P k x σ K) (hf : t = false → EV P k y σ K) : EV P k (.cond c x y) σ K := by
 intro E a w hE hr
 obtain ⟨m, R⟩ := hr
 have h1 := R.ev c
 rw [hc] at h1
 exact wp_cond_split h1.b_inv (fun h => ht h E a w hE ⟨m, R⟩) (fun h => hf h E a w hE ⟨m, R⟩)

theorem EV.block {id : Nat} {c : Code} (h : EV P k c σ (blockK id K)) : EV P k (.block id c) σ K := by
 intro E a w hE hr
 refine wp_block (wp_mono (h E a w hE hr) ?_)
 rintro e a' w' ⟨σ', h1, h2⟩
 cases e with
 | exit i =>
  simp only [blockK] at h1
  simp only [Exit.inBlock]
  split
  ·rw [if_pos (by assumption)] at h1; exact ⟨σ', h1, h2⟩
  ·rw [if_neg (by assumption)] at h1; exact ⟨σ', h1, h2⟩
 | _ => exact ⟨σ', h1, h2⟩

theorem EV.scope {c : Code} (h : EV P k c σ (scopeK K)) : EV P k (.scope c) σ K := by
 intro E a w hE hr
 refine wp_scope_straight (wp_mono (h E a w hE hr) ?_)
 rintro e a' w' ⟨σ', h1, h2⟩
 cases e with
 | goto l => exact h1.elim
 | _ => exact ⟨σ', h1, h2⟩

theorem EV.loop {α : Type} (I : α → St) (μ : α → Nat) (x₀ : α) {c : Code} (h₀ : Sub k σ (I x₀))
  (round : ∀ x, EV P k c (I x) (thenK (fun σ' => ∃ y, μ y < μ x ∧ Sub k σ' (I y)) K)) : EV P k (.loop c) σ K := by
 intro E a w hE hr
 refine wp_loop_ghost (fun n a w => ∃ x, μ x = n ∧ Rel E (I x) a w) (μ x₀) ⟨x₀, rfl, h₀ E a w hE.1 hr⟩ ?_
 rintro n a w ⟨x, rfl, hx⟩
 refine wp_mono (round x E a w hE hx) ?_
 rintro e a' w' ⟨σ', h1, h2⟩
 cases e with
 | normal =>
  obtain ⟨y, h3, h4⟩ := h1
  exact ⟨μ y, h3, y, rfl, h4 E a' w' hE.1 h2⟩
 | _ => exact ⟨σ', h1, h2⟩

end

def isCall : Op → Bool
 | .call c => match c.callee with
  | .value _ => true
  | _ => false
 | _ => false

def opS (P : Program) (T : Tab) (o : Oper) (σ : St) (C : V → List (Nat × Ob) → List Nat → Prop) : Prop :=
 if isCall o.op then ∃ v upd tc, OpR P T o.op σ.ev σ.lk σ.h.length v upd tc ∧ C v upd tc
 else match step T o.op σ.ev σ.lk σ.h.length with
  | some (v, upd) => C v upd (touchOf o.op σ.ev)
  | none => False

def wpS (P : Program) (T : Tab) (ops : Array Oper) (d : Bool) : List Oper → St → List (List Nat × List Nat) → (St → List (List Nat × List Nat) → Prop) → Prop
 | [], σ, tr, C => C σ tr
 | o :: os, σ, tr, C =>
  match o.guard with
  | none => opS P T o σ fun v upd tc => wpS P T ops d os (St.put { σ with h := updL σ.h upd } o.dst v) (if d then tr ++ [(tc, upd.map (·.1))] else []) C
  | some (j, want) => match gval ops σ.ev j with
   | .b x => (x = want → opS P T o σ fun v upd tc => wpS P T ops d os (St.put { σ with h := updL σ.h upd } o.dst v) (if d then tr ++ [(tc, upd.map (·.1))] else []) C) ∧
     (x ≠ want → wpS P T ops d os (σ.put o.dst (.tup [])) (if d then tr ++ [([], [])] else []) C)
   | .tup [] => wpS P T ops d os (σ.put o.dst (.tup [])) (if d then tr ++ [([], [])] else []) C
   | _ => False

section
variable {P : Program} {T : Tab}

theorem opS_inv {o : Oper} {σ : St} {C : V → List (Nat × Ob) → List Nat → Prop} (h : opS P T o σ C) : ∃ v upd tc, OpR P T o.op σ.ev σ.lk σ.h.length v upd tc ∧ C v upd tc := by
 unfold opS at h
 split at h
 ·exact h
 ·split at h
  ·rename_i v upd hs
   exact ⟨v, upd, _, .step (fun _ => by simp [St.lk, List.getD]) hs, h⟩
  ·exact h.elim

theorem wpS_seq {ops : Array Oper} {d : Bool} {C : St → List (List Nat × List Nat) → Prop} : ∀ {os : List Oper} {σ : St} {tr : List (List Nat × List Nat)}, wpS P T ops d os σ tr C →
  ∃ ss σ' tr', SeqR P T ops os σ ss σ' ∧ C σ' tr' ∧ (d = true → tr' = tr ++ ss.map fun s => (s.tc, s.upd.map (·.1)))
 | [], σ, tr, h => ⟨[], σ, tr, .nil σ, h, fun _ => by simp⟩
 | o :: os, σ, tr, h => by
  simp only [wpS] at h
  have run : (∀ j want, o.guard = some (j, want) → gval ops σ.ev j = .b want) →
    opS P T o σ (fun v upd tc => wpS P T ops d os (St.put { σ with h := updL σ.h upd } o.dst v) (if d then tr ++ [(tc, upd.map (·.1))] else []) C) →
    ∃ ss σ' tr', SeqR P T ops (o :: os) σ ss σ' ∧ C σ' tr' ∧ (d = true → tr' = tr ++ ss.map fun s => (s.tc, s.upd.map (·.1))) := by
   intro hg ho
   obtain ⟨v, upd, tc, h1, h2⟩ := opS_inv ho
   obtain ⟨ss, σ', tr', h3, h4, h5⟩ := wpS_seq h2
   refine ⟨⟨true, v, upd, tc⟩ :: ss, σ', tr', .cons (.run hg h1) h3, h4, fun hd => ?_⟩
   rw [h5 hd, hd]
   simp
  split at h
  ·rename_i hg
   exact run (fun j want h' => by rw [hg] at h'; cases h') h
  ·rename_i j want hg
   split at h
   ·rename_i x hv
    by_cases hx : x = want
    ·subst hx
     refine run (fun j' want' h' => ?_) (h.1 rfl)
     rw [hg] at h'; cases h'
     exact hv
    ·have h2 := h.2 hx
     obtain ⟨ss, σ', tr', h3, h4, h5⟩ := wpS_seq h2
     refine ⟨⟨false, .tup [], [], []⟩ :: ss, σ', tr', .cons (.skip hg (.inl ⟨x, hv, hx⟩)) h3, h4, fun hd => ?_⟩
     rw [h5 hd, hd]
     simp
   ·rename_i hv
    obtain ⟨ss, σ', tr', h3, h4, h5⟩ := wpS_seq h
    refine ⟨⟨false, .tup [], [], []⟩ :: ss, σ', tr', .cons (.skip hg (.inr hv)) h3, h4, fun hd => ?_⟩
    rw [h5 hd, hd]
    simp
   ·exact h.elim

theorem EV.region {k : Nat} {K : Exit → St → Prop} {σ : St} {id : Nat} {ops : Array Oper} (hT : TOK P T) (h : wpS P T ops false ops.toList σ [] fun σ' _ => K .normal σ') : EV P k (.region id ops false) σ K := by
 intro E a w hE hr
 obtain ⟨ss, σ', tr', h1, h2, _⟩ := wpS_seq h
 exact region_text hT hE.2 h1 hr fun a' w' hr' => ⟨σ', h2, hr'⟩

theorem EV.draw {k : Nat} {K : Exit → St → Prop} {σ : St} {id : Nat} {ops : Array Oper} (hT : TOK P T) (hm : P.follows .mixedOrders = true) (h : wpS P T ops true ops.toList σ [] fun σ' tr => okD ops tr = true ∧ K .normal σ') : EV P k (.region id ops true) σ K := by
 intro E a w hE hr
 obtain ⟨ss, σ', tr', h1, h2, h3⟩ := wpS_seq h
 have h4 := h3 rfl
 rw [List.nil_append] at h4
 exact region_draw hT hm hE.2 h1 (by rw [← h4]; exact h2.1) hr fun a' w' hr' => ⟨σ', h2.2, hr'⟩

end

end Go.AM
end
section
namespace Go.AM
open Go

inductive RetP (lk : Nat → Ob) (sel : List Nat) : V → V → Prop
 | pu {x : V} (h : Pu x) : RetP lk sel x x
 | nil (sz : Nat) : RetP lk sel (.c (.slice none 0 0)) (.ro sz [])
 | z (sz : Nat) : RetP lk sel .z (.ro sz [])
 | sl {o ep off n sz : Nat} {es es' : List (List V)} (xs : Nat → Nat → V) (ho : o ∉ sel) (hl : lk o = .arr ep sz es) (hle : off + n ≤ es.length) (hn : es'.length = n) (hsz : ∀ x ∈ es', x.length = sz)
   (hx : ∀ (i j : Nat) (y : V), (es'[i]?).bind (fun l => l[j]?) = some y → (es[off + i]?).bind (fun l => l[j]?) = some (xs i j))
   (hr : ∀ (i j : Nat) (y : V), (es'[i]?).bind (fun l => l[j]?) = some y → RetP lk sel (xs i j) y) : RetP lk sel (.sl o ep off n) (.ro sz es')

def Ret0 (lk : Nat → Ob) (sel : List Nat) (x y : V) : Prop := y = ren0 (toIdx sel) x ∨ RetP lk sel x y
def Ret1 (lk : Nat → Ob) (sel : List Nat) (x y : V) : Prop := y = ren1 (toIdx sel) x ∨ RetP lk sel x y ∨
 ∃ cs cs', x = .agg cs ∧ y = .agg cs' ∧ cs'.length = cs.length ∧ ∀ (j : Nat) (a b : V), cs[j]? = some a → cs'[j]? = some b → Ret0 lk sel a b
def RetV (lk : Nat → Ob) (sel : List Nat) (x y : V) : Prop := Ret1 lk sel x y ∨
 ∃ cs cs', x = .tup cs ∧ y = .tup cs' ∧ cs'.length = cs.length ∧ ∀ (j : Nat) (a b : V), cs[j]? = some a → cs'[j]? = some b → Ret1 lk sel a b

theorem RetP.flat {lk : Nat → Ob} {sel : List Nat} {o ep off n sz : Nat} {es : List (List V)} (ho : o ∉ sel) (hl : lk o = .arr ep sz es) (hle : off + n ≤ es.length) (hsz : ∀ x ∈ es, x.length = sz)
  (hp : ∀ e ∈ es, ∀ y ∈ e, Pu y) : RetP lk sel (.sl o ep off n) (.ro sz ((es.drop off).take n)) := by
 have hget : ∀ (i j : Nat) (y : V), (((es.drop off).take n)[i]?).bind (fun l => l[j]?) = some y → (es[off + i]?).bind (fun l => l[j]?) = some y := by
  intro i j y hy
  rw [List.getElem?_take] at hy
  split at hy
  ·rwa [List.getElem?_drop] at hy
  ·cases hy
 refine .sl (fun i j => (((es.drop off).take n)[i]?).bind (fun l => l[j]?) |>.getD .junk) ho hl hle (by simp; omega) (fun x hx => hsz x (List.mem_of_mem_drop (List.mem_of_mem_take hx))) (fun i j y hy => by rw [hy]; exact hget i j y hy) (fun i j y hy => ?_)
 rw [hy]
 refine .pu ?_
 have h1 := hget i j y hy
 cases hq : es[off + i]? with
 | none => rw [hq] at h1; cases h1
 | some l =>
  rw [hq] at h1
  exact hp l (List.mem_of_getElem? hq) y (List.mem_of_getElem? (show l[j]? = some y from h1))

section
variable {E : Env} {m : Locs} {h : List Ob} {w : World}

theorem HRel.sel (R : HRel E m h w) {k : Nat} (hE : EnvOK k E) {sel : List Nat} (hn : sel.Nodup) (hk : ∀ i, i < k → sel[i]? = some i) :
  HRel E (fun i => (sel[i]?).bind m) (passed h sel) w ∧
  (∀ x u, VRel (dirOf m h) (okc E m h) w x u → ∀ y, RetV (fun o => h.getD o .unborn) sel x y → VRel (dirOf (fun i => (sel[i]?).bind m) (passed h sel)) (okc E (fun i => (sel[i]?).bind m) (passed h sel)) w y u) := by
 have hlive : ∀ i, live ((passed h sel).getD i .unborn) → ∃ o, sel[i]? = some o ∧ live (h.getD o .unborn) := by
  intro i hl
  rw [passed_get] at hl
  cases ho : sel[i]? with
  | none => rw [ho] at hl; exact hl.elim
  | some o => rw [ho] at hl; exact ⟨o, rfl, live_ren.1 hl⟩
 have hdir : ∀ o i, sel[i]? = some o → dirOf (fun i => (sel[i]?).bind m) (passed h sel) i = dirOf m h o := by
  intro o i ho
  rw [dirOf_eq, passed_get, ho]
  simp only [Option.bind_some]
  rw [deOf_ren, ← dirOf_eq]
 have hμ : ∀ o i, toIdx sel o = some i → ∀ d, dirOf m h o = some d → dirOf (fun i => (sel[i]?).bind m) (passed h sel) i = some d := by
  intro o i hi d hdd
  rw [hdir o i (toIdx_some hi)]
  exact hdd
 have hok : ∀ b, okc E m h b → okc E (fun i => (sel[i]?).bind m) (passed h sel) b := by
  intro b hb
  refine ⟨hb.1, fun i blk off hl hm => ?_⟩
  obtain ⟨o, ho, hlo⟩ := hlive i hl
  simp only [ho, Option.bind_some] at hm
  exact hb.2 o blk off hlo hm
 have hp0 : ∀ x u, PRel (okc E m h) w x u → PRel (okc E (fun i => (sel[i]?).bind m) (passed h sel)) w x u :=
  fun x u hpr => hpr.mono (Nat.le_refl _) fun b _ hb => ⟨hok b hb, rfl⟩
 have hself : ∀ o, o < k → ∀ i, sel[i]? = some o → i = o := by
  intro o ho i hi
  have h1 := toIdx_of hn (hk o ho)
  rw [toIdx_of hn hi] at h1
  exact Option.some.inj h1
 have hdrop : ∀ o blk off, o ∉ sel → live (h.getD o .unborn) → m o = some (blk, off) → okc E (fun i => (sel[i]?).bind m) (passed h sel) blk := by
  intro o blk off ho hl hm
  refine ⟨?_, fun i blk' off' hl' hm' => ?_⟩
  ·rcases R.new o blk off hl hm with ⟨d, hd, _⟩ | hge
   ·exact absurd (List.mem_of_getElem? (hk o (hE o d hd))) ho
   ·exact .inr hge
  ·obtain ⟨o', ho', hlo'⟩ := hlive i hl'
   simp only [ho', Option.bind_some] at hm'
   rintro rfl
   have := R.inj o' o blk' off' off hlo' hl hm' hm
   subst this
   exact ho (List.mem_of_getElem? ho')
 have hretp : ∀ x y, RetP (fun o => h.getD o .unborn) sel x y → ∀ u, VRel (dirOf m h) (okc E m h) w x u → PRel (okc E (fun i => (sel[i]?).bind m) (passed h sel)) w y u := by
  intro x y hr
  induction hr with
  | pu hp => exact fun u hv => hp0 _ _ (hv.toP hp)
  | nil sz => intro u hv; rw [hv.c_inv]; exact .ro0 sz _ _
  | z sz =>
   intro u hv
   cases hv with
   | pure hp => cases hp; exact .ro0 sz _ _
  | @sl o ep off n sz es es' xs ho hl hle hn' hsz hx hr ih =>
   intro u hv
   cases hv with
   | pure hp => cases hp
   | sl _ _ _ _ sz2 blk o0 cap cl e fr hD hnc hb hf =>
    rw [dir_arr hl] at hD
    simp only [Option.some.injEq, DE.arr.injEq, true_and] at hD
    obtain ⟨rfl, hm⟩ := hD
    obtain ⟨hel, hsz0, hmost⟩ := arr_sz R hl
    have hlv : live (h.getD o .unborn) := by rw [hl]; trivial
    have hob := R.obs o
    rw [hl, hm] at hob
    obtain ⟨_, _, _, c2, e2, hc2, hcz2, hcs2⟩ := hob
    have key : ∀ (i j : Nat) (y : V), (es'[i]?).bind (fun l => l[j]?) = some y → ∃ u, w.cell? ⟨blk, o0 + off * sz + i * sz + j, none⟩ = some u ∧ VRel (dirOf m h) (okc E m h) w (xs i j) u := by
     intro i j y hy
     obtain ⟨u, h1, _, h3⟩ := hcs2 (off + i) j (xs i j) (hx i j y hy)
     exact ⟨u, by rw [show o0 + off * sz + i * sz + j = o0 + (off + i) * sz + j by rw [Nat.add_mul]; omega]; simp [World.cell?, hc2, h1], h3⟩
    have := PRel.ro (ok := okc E (fun i => (sel[i]?).bind m) (passed h sel)) (w := w) sz es' blk (o0 + off * sz) cap (fun i j => (w.cell? ⟨blk, o0 + off * sz + i * sz + j, none⟩).getD undef)
     (hdrop o blk o0 ho hlv hm) (R.blk o blk o0 hlv hm).2 hsz (by omega) (by omega)
     (fun i j hi hj => by
      have hil : (es'[i]'hi).length = sz := hsz _ (List.getElem_mem _)
      obtain ⟨u, h1, _⟩ := key i j ((es'[i]'hi)[j]'(by omega)) (by simp [hi])
      rw [h1]; rfl)
     (fun i j y hy => by
      obtain ⟨u, h1, h2⟩ := key i j y hy
      rw [h1]
      exact ih i j y hy u h2)
    rw [hn'] at this
    exact this
   | sl0 _ _ _ sz2 l a hD =>
    have : es' = [] := List.eq_nil_of_length_eq_zero hn'
    subst this
    exact .ro0 sz a 0
   | slS _ _ _ _ _ d _ hD hst _ =>
    rw [dir_arr hl] at hD
    obtain rfl := Option.some.inj hD
    exact (stale_arr hst).elim
 have hret0 : ∀ x y u, Ret0 (fun o => h.getD o .unborn) sel x y → VRel (dirOf m h) (okc E m h) w x u → VRel (dirOf (fun i => (sel[i]?).bind m) (passed h sel)) (okc E (fun i => (sel[i]?).bind m) (passed h sel)) w y u := by
  rintro x y u (rfl | hr) hv
  ·exact ren0_rel hμ (.inl hp0) hv
  ·exact .pure (hretp x y hr u hv)
 have hret1 : ∀ x y u, Ret1 (fun o => h.getD o .unborn) sel x y → VRel (dirOf m h) (okc E m h) w x u → VRel (dirOf (fun i => (sel[i]?).bind m) (passed h sel)) (okc E (fun i => (sel[i]?).bind m) (passed h sel)) w y u := by
  rintro x y u (rfl | hr | ⟨cs, cs', rfl, rfl, hl, hc⟩) hv
  ·exact ren1_rel hμ (.inl hp0) hv
  ·exact .pure (hretp x y hr u hv)
  ·obtain ⟨us, rfl, hul, h1, hr⟩ := hv.agg_inv
   refine .agg cs' us (by rw [hul, hl]) h1 fun j b z hb hz => ?_
   have hj : j < cs.length := by rw [← hl]; exact (List.getElem?_eq_some_iff.1 hb).1
   exact hret0 _ b z (hc j _ b (List.getElem?_eq_getElem hj) hb) (hr j _ z (List.getElem?_eq_getElem hj) hz)
 refine ⟨⟨R.ext, ?_, ?_, ?_, ?_, ?_⟩, ?_⟩
 ·intro i blk off hl hm
  obtain ⟨o, ho, hlo⟩ := hlive i hl
  simp only [ho, Option.bind_some] at hm
  exact R.blk o blk off hlo hm
 ·intro i j blk off off' hl hl' hm hm'
  obtain ⟨o, ho, hlo⟩ := hlive i hl
  obtain ⟨o', ho', hlo'⟩ := hlive j hl'
  simp only [ho, ho', Option.bind_some] at hm hm'
  have := R.inj o o' blk off off' hlo hlo' hm hm'
  subst this
  have h1 := toIdx_of hn ho
  rw [toIdx_of hn ho'] at h1
  exact (Option.some.inj h1).symm
 ·intro i
  rw [passed_get]
  cases ho : sel[i]? with
  | none => trivial
  | some o =>
   simp only [Option.bind_some]
   exact Ob.ren_ok hμ (.inl hp0) (R.obs o)
 ·intro i blk off hl hm
  obtain ⟨o, ho, hlo⟩ := hlive i hl
  simp only [ho, Option.bind_some] at hm
  rcases R.new o blk off hlo hm with ⟨d, hd, hb⟩ | hge
  ·have := hself o (hE o d hd) i ho
   subst this
   exact .inl ⟨d, hd, hb⟩
  ·exact .inr hge
 ·intro o d hd
  obtain ⟨d', h1, h2⟩ := R.dle o d hd
  exact ⟨d', by rw [hdir o o (hk o (hE o d hd))]; exact h1, h2⟩
 ·rintro x u hv y (hr | ⟨cs, cs', rfl, rfl, hl, hc⟩)
  ·exact hret1 x y u hr hv
  ·obtain ⟨us, rfl, hul, hr⟩ := hv.tup_inv
   refine .tup cs' us (by rw [hul, hl]) fun j b z hb hz => ?_
   have hj : j < cs.length := by rw [← hl]; exact (List.getElem?_eq_some_iff.1 hb).1
   exact hret1 _ b z (hc j _ b (List.getElem?_eq_getElem hj) hb) (hr j _ z (List.getElem?_eq_getElem hj) hz)

end

def resSlot (T : Tab) (σ : St) : ResultVar → Option V
 | .tmp t => some (σ.t.getD t .junk)
 | .cell a t => if (T t).size ≠ 0 then ld (T t) (fun o => σ.h.getD o .unborn) (σ.t.getD a .junk) else none

def resL (T : Tab) (σ : St) : List ResultVar → Option (List V)
 | [] => some []
 | x :: r => match resSlot T σ x, resL T σ r with
  | some v, some l => some (v :: l)
  | _, _ => none

def packV : List V → V
 | [v] => v
 | l => .tup l

def Fin (T : Tab) (k : Nat) (rs : List ResultVar) (r : V) (objs' : List Ob) (σ : St) : Prop :=
 ∃ (extra : List Nat) (l : List V), extra.Nodup ∧ (∀ o ∈ extra, k ≤ o) ∧ objs' = passed σ.h (List.range k ++ extra) ∧ resL T σ rs = some l ∧ RetV (fun o => σ.h.getD o .unborn) (List.range k ++ extra) (packV l) r

def bodyK (T : Tab) (k : Nat) (rs : List ResultVar) (r : V) (objs' : List Ob) : Exit → St → Prop
 | .normal, σ => Fin T k rs r objs' σ
 | .ret, σ => Fin T k rs r objs' σ
 | _, _ => False

def packRes : List Value → Value
 | [v] => v
 | l => .tuple l.toArray

theorem packRes_eq (vs : Array Value) : (if h : vs.size = 1 then vs[0] else .tuple vs) = packRes vs.toList := by
 obtain ⟨l⟩ := vs
 match l with
 | [] => rfl
 | [x] => rfl
 | x :: y :: r =>
  have : ¬ ((x :: y :: r).toArray.size = 1) := by simp
  rw [dif_neg this]
  rfl

theorem loadAt_inv {P : Program} {w w' : World} {t : TypeId} {u0 u : Value} (h : (Instr.loadAt t u0).run P w = .ok u w') : (asAddr u0 >>= fun a => loadVar t a).run P w = .ok u w' := by
 unfold Instr.loadAt at h
 cases u0 with
 | pointer a =>
  cases a with
  | some a => exact h
  | none => simp [Instr.sureAddr, stuck, Sem.run_bind] at h
 | _ => simp [Instr.sureAddr, stuck, Sem.run_bind] at h

theorem results_slots {P : Program} {T : Tab} (hT : TOK P T) {E : Env} {m : Locs} {σ : St} {w : World} (R : HRel E m σ.h w) {tmps : Array Value} (hr : ∀ t, VRel (dirOf m σ.h) (okc E m σ.h) w (σ.t.getD t .junk) (tmps.getD t undef)) :
  ∀ (rs : List ResultVar) (l : List V), resL T σ rs = some l → ∃ us : List Value, (rs.mapM fun
   | .tmp t => pure (tmps.getD t undef)
   | .cell a t => do loadVar t (← asAddr (tmps.getD a undef)) : Sem (List Value)).run P w = .ok us w ∧ us.length = l.length ∧
   ∀ (j : Nat) (x : V) (u : Value), l[j]? = some x → us[j]? = some u → VRel (dirOf m σ.h) (okc E m σ.h) w x u
 | [], l, h => by
  simp only [resL, Option.some.injEq] at h
  subst h
  exact ⟨[], rfl, rfl, fun j x u hx => by simp at hx⟩
 | x :: rs, l, h => by
  simp only [resL] at h
  split at h
  ·rename_i v l' h1 h2
   obtain rfl := Option.some.inj h
   obtain ⟨us, h3, h4, h5⟩ := results_slots hT R hr rs l' h2
   have : ∃ u, (match x with
     | .tmp t => pure (tmps.getD t undef)
     | .cell a t => do loadVar t (← asAddr (tmps.getD a undef)) : Sem Value).run P w = .ok u w ∧ VRel (dirOf m σ.h) (okc E m σ.h) w v u := by
    cases x with
    | tmp t =>
     simp only [resSlot, Option.some.injEq] at h1
     subst h1
     exact ⟨_, rfl, hr t⟩
    | cell a t =>
     simp only [resSlot] at h1
     split at h1
     ·rename_i hs
      obtain ⟨u, h6, h7⟩ := ld_sound hT R hs (hr a) h1
      exact ⟨u, loadAt_inv h6, h7⟩
     ·cases h1
   obtain ⟨u, h6, h7⟩ := this
   refine ⟨u :: us, ?_, by simp [h4], fun j y z hy hz => ?_⟩
   ·rw [List.mapM_cons, Sem.run_bind, h6]
    simp only [Result.andThen_ok]
    rw [Sem.run_bind, h3]
    rfl
   ·cases j with
    | zero =>
     simp only [List.getElem?_cons_zero, Option.some.injEq] at hy hz
     subst hy; subst hz
     exact h7
    | succ j => exact h5 j y z (by simpa using hy) (by simpa using hz)
  ·cases h

theorem results_run {P : Program} {T : Tab} (hT : TOK P T) {E : Env} {m : Locs} {σ : St} {w : World} (R : HRel E m σ.h w) {fn : Func} {tmps : Array Value} (hr : ∀ t, VRel (dirOf m σ.h) (okc E m σ.h) w (σ.t.getD t .junk) (tmps.getD t undef))
  {l : List V} (hl : resL T σ fn.results.toList = some l) :
  ∃ v, (results fn tmps).run P w = .ok v w ∧ VRel (dirOf m σ.h) (okc E m σ.h) w (packV l) v := by
 obtain ⟨us, h1, h2, h3⟩ := results_slots hT R hr _ _ hl
 refine ⟨packRes us, ?_, ?_⟩
 ·unfold results
  rw [Array.mapM_eq_mapM_toList, Sem.run_bind, Sem.run_map]
  refine (congrArg (fun r => (Result.andThen (Result.andThen r (fun (a : List Value) w' => Result.ok a.toArray w')) fun a w' => Sem.run P (pure (if h : a.size = 1 then a[0] else Value.tuple a)) w')) h1).trans ?_
  simp only [Result.andThen_ok, Sem.run_pure]
  rw [packRes_eq]
 ·match l, us, h2 with
  | [], [], _ => exact .tup [] [] rfl h3
  | [x], [u], _ => exact h3 0 x u rfl rfl
  | x :: y :: l, u :: z :: us, h2 => exact .tup _ _ h2 h3

theorem QC.of_body {P : Program} {T : Tab} (hT : TOK P T) {f : FuncId} {fn : Func} {c : Code} (hf : P.funcs[f]? = some fn) (hb : fn.body = some c) (hname : (fn.name == "runtime.NumGoroutine") = false) {args : List V} {objs : List Ob} {r : V} {objs' : List Ob}
  (H : EV P objs.length c ⟨args ++ List.replicate (fn.ntmps - args.length) .junk, objs⟩ (bodyK T objs.length fn.results.toList r objs')) : QC P f args objs r objs' := by
 refine ⟨fun vs w => ?_, fun w vs m ok hG R hlen hrel => ?_⟩
 ·have hne : ¬ (fn.name = "runtime.NumGoroutine") := by simpa using hname
  simp [callFunc, hf, hb, hne]
 ·refine calls_of_wp hf hb ?_
  have hE : EnvOK objs.length ⟨w, ownOf m objs, ok, dirOf m objs, []⟩ := by
   intro o d hd
   have hd' : dirOf m objs o = some d := hd
   rw [dirOf_eq] at hd'
   rcases Nat.lt_or_ge o objs.length with h | h
   ·exact h
   ·have : objs.getD o .unborn = .unborn := by simp [List.getD, List.getElem?_eq_none h]
    rw [this] at hd'; cases hd'
  have hrel0 : Rel ⟨w, ownOf m objs, ok, dirOf m objs, []⟩ ⟨args ++ List.replicate (fn.ntmps - args.length) .junk, objs⟩ { tmps := vs ++ Array.replicate (fn.ntmps - vs.size) undef, defers := [] } w := by
   refine ⟨m, { toHRel := R, tsize := by simp [hlen], defers := rfl, tmps := fun t => ?_ }⟩
   by_cases ht : t < args.length
   ·have h1 : (args ++ List.replicate (fn.ntmps - args.length) V.junk).getD t .junk = args[t] := by
     rw [List.getD, List.getElem?_append_left ht, List.getElem?_eq_getElem ht]
     rfl
    have h2 : (vs ++ Array.replicate (fn.ntmps - vs.size) undef).getD t undef = vs[t]'(by omega) := by
     have : t < vs.size := by omega
     simp [Array.getElem?_append, this]
    show VRel _ _ _ ((args ++ List.replicate (fn.ntmps - args.length) V.junk).getD t .junk) ((vs ++ Array.replicate (fn.ntmps - vs.size) undef).getD t undef)
    rw [h1, h2]
    exact hrel t _ _ (by simp) (by simp)
   ·have h1 : (args ++ List.replicate (fn.ntmps - args.length) V.junk).getD t .junk = .junk := by
     simp only [List.getD, List.getElem?_append_right (Nat.le_of_not_lt ht), List.getElem?_replicate]
     split <;> rfl
    show VRel _ _ _ ((args ++ List.replicate (fn.ntmps - args.length) V.junk).getD t .junk) _
    rw [h1]
    exact .junk _
  refine wp_mono (H _ _ _ ⟨hE, hG⟩ hrel0) ?_
  have fin : ∀ (e : Exit) (a' : Act) (w' : World) (σ' : St), Fin T objs.length fn.results.toList r objs' σ' → Rel ⟨w, ownOf m objs, ok, dirOf m objs, []⟩ σ' a' w' →
    a'.defers = [] ∧ ∃ v, (results fn a'.tmps).run P w' = .ok v w' ∧ ∃ v' m', Ending.returned v = .returned v' ∧ HRel ⟨w, ownOf m objs, ok, dirOf m objs, []⟩ m' objs' w' ∧
     VRel (dirOf m' objs') (okc ⟨w, ownOf m objs, ok, dirOf m objs, []⟩ m' objs') w' r v' := by
   rintro e a' w' σ' ⟨extra, l, hn, hge, rfl, hl, hret⟩ ⟨m', R'⟩
   obtain ⟨v, hv1, hv2⟩ := results_run hT R'.toHRel R'.tmps hl
   have hnd : (List.range objs.length ++ extra).Nodup := by
    rw [List.nodup_append]
    refine ⟨List.nodup_range, hn, fun a ha b hb => ?_⟩
    have := List.mem_range.1 ha
    have := hge b hb
    omega
   obtain ⟨h1, h2⟩ := R'.toHRel.sel hE hnd (fun i hi => by rw [List.getElem?_append_left (by simpa using hi), List.getElem?_range hi])
   exact ⟨R'.defers, v, hv1, v, _, rfl, h1, h2 _ _ hv2 _ hret⟩
  rintro e a' w' ⟨σ', h1, h2⟩
  cases e with
  | normal => exact fin .normal a' w' σ' h1 h2
  | ret => exact fin .ret a' w' σ' h1 h2
  | _ => exact h1.elim

end Go.AM
end
section
namespace Go.AM
open Go

theorem Sub.refl {k : Nat} (σ : St) : Sub k σ σ := fun _ _ _ _ h => h
theorem Sub.trans {k : Nat} {a b c : St} (h : Sub k a b) (h' : Sub k b c) : Sub k a c := fun E x w hE hr => h' E x w hE (h E x w hE hr)

theorem Sub.sel {k : Nat} {σ : St} {t' : List V} {sel : List Nat} (hn : sel.Nodup) (hk : ∀ i, i < k → sel[i]? = some i) (hl : t'.length = σ.t.length)
  (ht : ∀ (j : Nat) (x y : V), σ.t[j]? = some x → t'[j]? = some y → y = .junk ∨ RetV (fun o => σ.h.getD o .unborn) sel x y) : Sub k σ ⟨t', passed σ.h sel⟩ := by
 rintro E a w hE ⟨m, R⟩
 obtain ⟨h1, h2⟩ := R.toHRel.sel hE hn hk
 refine ⟨_, { toHRel := h1, tsize := by rw [R.tsize]; exact hl.symm, defers := R.defers, tmps := fun j => ?_ }⟩
 show VRel _ _ _ (t'.getD j .junk) _
 rcases Nat.lt_or_ge j t'.length with hj | hj
 ·have hy : t'[j]? = some t'[j] := List.getElem?_eq_getElem hj
  have hx : σ.t[j]? = some (σ.t[j]'(by omega)) := List.getElem?_eq_getElem (by omega)
  have hr := R.tmps j
  rw [List.getD_eq_getElem?_getD, hx] at hr
  rw [List.getD_eq_getElem?_getD, hy]
  rcases ht j _ _ hx hy with h | h
  ·rw [Option.getD_some, h]; exact .junk _
  ·exact h2 _ _ hr _ h
 ·rw [List.getD_eq_getElem?_getD, List.getElem?_eq_none hj]
  exact .junk _

theorem Sub.junk {k : Nat} {σ : St} {t' : List V} (hl : t'.length = σ.t.length) (ht : ∀ (j : Nat) (x y : V), σ.t[j]? = some x → t'[j]? = some y → y = .junk ∨ y = x) : Sub k σ ⟨t', σ.h⟩ := by
 rintro E a w hE ⟨m, R⟩
 refine ⟨m, { toHRel := R.toHRel, tsize := by rw [R.tsize]; exact hl.symm, defers := R.defers, tmps := fun j => ?_ }⟩
 show VRel _ _ _ (t'.getD j .junk) _
 rcases Nat.lt_or_ge j t'.length with hj | hj
 ·have hy : t'[j]? = some t'[j] := List.getElem?_eq_getElem hj
  have hx : σ.t[j]? = some (σ.t[j]'(by omega)) := List.getElem?_eq_getElem (by omega)
  have hr := R.tmps j
  rw [List.getD_eq_getElem?_getD, hx] at hr
  rw [List.getD_eq_getElem?_getD, hy]
  rcases ht j _ _ hx hy with h | h
  ·rw [Option.getD_some, h]; exact .junk _
  ·rw [Option.getD_some, h]; exact hr
 ·rw [List.getD_eq_getElem?_getD, List.getElem?_eq_none hj]
  exact .junk _

def keepT : List Bool → List V → List V
 | b :: bs, x :: xs => (if b then x else .junk) :: keepT bs xs
 | [], xs => xs
 | _ :: _, [] => []

end Go.AM
end
