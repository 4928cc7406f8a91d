/- The plain law: names, and two sources that are the same. -/
import Derived.Test.YtakfpmogpnoibaaGreatDoorMachD
import Derived.Test.YtakfpmogpnoibaaGreatDoorNamB
import Derived.Test.YtakfpmogpnoibaaGreatDoorValT
import Derived.Test.YtakfpmogpnoibaaGreatDoorSamR
import Derived.Test.YtakfpmogpnoibaaGreatDoorSamT
set_option linter.unusedVariables false
set_option linter.unusedSimpArgs false
set_option linter.constructorNameAsVariable false
section
namespace Go.AM
open Go
variable {α β γ : Type}

def all2 (c : α → β → Bool) : List α → List β → Bool
  | [], [] => true
  | x :: xs, y :: ys => c x y && all2 c xs ys
  | _, _ => false

theorem all2_len {c : α → β → Bool} : ∀ {xs : List α} {ys : List β}, all2 c xs ys = true → xs.length = ys.length
  | [], [], _ => rfl
  | [], _ :: _, h => by simp [all2] at h
  | _ :: _, [], h => by simp [all2] at h
  | x :: xs, y :: ys, h => by
    simp only [all2, Bool.and_eq_true] at h
    simp [all2_len h.2]

theorem all2_map {c : α → α → Bool} {f : α → γ} : ∀ {l l' : List α}, (∀ x ∈ l, ∀ y, c x y = true ↔ f x = f y) → (all2 c l l' = true ↔ l.map f = l'.map f)
  | [], [], _ => by simp [all2]
  | [], _ :: _, _ => by simp [all2]
  | _ :: _, [], _ => by simp [all2]
  | x :: xs, y :: ys, h => by
    simp only [all2, Bool.and_eq_true, List.map_cons, List.cons.injEq]
    rw [h x (by simp) y, all2_map (fun z hz => h z (by simp [hz]))]

theorem all2_eq {c : α → α → Bool} {l l' : List α} (h : ∀ x ∈ l, ∀ y, c x y = true ↔ x = y) : all2 c l l' = true ↔ l = l' := by
  have := all2_map (f := id) (l := l) (l' := l') h
  simpa using this

theorem loop_all2 [Inhabited β] {ρ : Type} {r : ρ} (L : List α → Nat → Ctl ρ Unit) (ys : List β) (c : α → β → Bool) (h0 : ∀ j, L [] j = .go ())
    (h1 : ∀ x xs j, L (x :: xs) j = if c x (ys.getD j default) = true then L xs (j + 1) else .ret r) :
    ∀ xs j, xs.length + j = ys.length → L xs j = if all2 c xs (ys.drop j) = true then .go () else .ret r
  | [], j, h => by
    rw [h0, List.drop_eq_nil_of_le (by simp at h; omega)]
    simp [all2]
  | x :: xs, j, h => by
    have hj : j < ys.length := by simp at h; omega
    rw [h1, List.drop_eq_getElem_cons hj, all2]
    have e : ys.getD j default = ys[j] := by rw [List.getD_eq_getElem?_getD, List.getElem?_eq_getElem hj]; rfl
    rw [e, loop_all2 L ys c h0 h1 xs (j + 1) (by simp at h; omega)]
    cases c x ys[j] <;> simp

theorem run_loop [Inhabited β] (L : List α → Nat → Ctl Bool Unit) (ys : List β) (c : α → β → Bool) (h0 : ∀ j, L [] j = .go ())
    (h1 : ∀ x xs j, L (x :: xs) j = if c x (ys.getD j default) = true then L xs (j + 1) else .ret false) (xs : List α) (f : Unit → Bool) (hl : xs.length = ys.length) :
    Ctl.run (L xs 0) f = (all2 c xs ys && f ()) := by
  rw [loop_all2 L ys c h0 h1 xs 0 (by simpa using hl)]
  cases h : all2 c xs ys <;> simp [h, Ctl.run]

theorem bind_loop [Inhabited β] {ν : Type} (L : List α → Nat → Ctl Bool Unit) (ys : List β) (c : α → β → Bool) (h0 : ∀ j, L [] j = .go ())
    (h1 : ∀ x xs j, L (x :: xs) j = if c x (ys.getD j default) = true then L xs (j + 1) else .ret false) (xs : List α) (f : Unit → Ctl Bool ν) (hl : xs.length = ys.length) :
    Ctl.bind (L xs 0) f = if all2 c xs ys = true then f () else .ret false := by
  rw [loop_all2 L ys c h0 h1 xs 0 (by simpa using hl)]
  cases h : all2 c xs ys <;> simp [h, Ctl.bind]

theorem all2_false {c : α → β → Bool} {xs : List α} {ys : List β} (h : xs.length ≠ ys.length) : all2 c xs ys = false := by
  cases e : all2 c xs ys with
  | false => rfl
  | true => exact absurd (all2_len e) h

/-- A row each of whose elements is so. -/
theorem loop_all {ρ : Type} {r : ρ} (L : List α → Ctl ρ Unit) (c : α → Bool) (h0 : L [] = .go ())
    (h1 : ∀ x xs, L (x :: xs) = if c x = true then L xs else .ret r) : ∀ xs, L xs = if xs.all c = true then .go () else .ret r
  | [] => by rw [h0]; rfl
  | x :: xs => by
    rw [h1, loop_all L c h0 h1 xs]
    cases hx : c x <;> simp [hx]
theorem run_all (L : List α → Ctl Bool Unit) (c : α → Bool) (h0 : L [] = .go ())
    (h1 : ∀ x xs, L (x :: xs) = if c x = true then L xs else .ret false) (xs : List α) (f : Unit → Bool) : Ctl.run (L xs) f = (xs.all c && f ()) := by
  rw [loop_all L c h0 h1]
  cases h : xs.all c <;> simp [h, Ctl.run]
end Go.AM
end
section
namespace Go.Proofs.Tryz
open Go Go.AM
set_option maxRecDepth 10000

theorem letter_eq (b : UInt8) : tLetter (b.toNat : Int) = rLetter (b.toNat : Int) := by
  have h : ∀ n : Fin 256, tLetter ((n.val : Nat) : Int) = rLetter ((n.val : Nat) : Int) := by decide +kernel
  exact h ⟨b.toNat, b.toNat_lt⟩

theorem wrap_small {n : Int} (h : -9223372036854775808 ≤ n) (h2 : n ≤ 9223372036854775807) : IntKind.i64.wrap n = n := wrap_in n h h2

theorem name_len (s : List UInt8) (h : s.length ≤ 24) : ∀ (m : Nat) (n : Int), 1 ≤ n → n ≤ s.length → (s.length : Int) - n = m → rName_l2 s 0 n = tLen_l2 s tInner n := by
  intro m
  induction m with
  | zero =>
    intro n h1 h2 hm
    rw [rName_l2, tLen_l2]
    dsimp only [bnd]
    rw [if_neg, if_neg]
    · omega
    · rw [wrap_small (by omega) (by omega)]; omega
  | succ m ih =>
    intro n h1 h2 hm
    rw [rName_l2, tLen_l2]
    dsimp only [bnd]
    have hw : IntKind.i64.wrap (0 + n) = n := by rw [wrap_small (by omega) (by omega)]; omega
    have hw1 : IntKind.i64.wrap (n + 1) = n + 1 := wrap_small (by omega) (by omega)
    rw [hw, hw1]
    have hc : (n < (s.length : Int) ∧ (rLetter (((s.getD n.toNat 0).toNat : Nat) : Int) = true ∨ 0 < n ∧ (rDigit (((s.getD n.toNat 0).toNat : Nat) : Int) = true ∨ (((s.getD n.toNat 0).toNat : Nat) : Int) = 95))) ↔
        (n < (s.length : Int) ∧ tInner (((s.getD n.toNat 0).toNat : Nat) : Int) = true) := by
      have e : tDigit (((s.getD n.toNat 0).toNat : Nat) : Int) = rDigit (((s.getD n.toNat 0).toNat : Nat) : Int) := rfl
      unfold tInner
      rw [letter_eq, e]
      simp only [Bool.or_eq_true, decide_eq_true_eq]
      constructor
      · rintro ⟨a, b | ⟨_, b | b⟩⟩
        · exact ⟨a, .inl (.inl b)⟩
        · exact ⟨a, .inl (.inr b)⟩
        · exact ⟨a, .inr b⟩
      · rintro ⟨a, (b | b) | b⟩
        · exact ⟨a, .inl b⟩
        · exact ⟨a, .inr ⟨by omega, .inl b⟩⟩
        · exact ⟨a, .inr ⟨by omega, .inr b⟩⟩
    by_cases hh : n < (s.length : Int) ∧ tInner (((s.getD n.toNat 0).toNat : Nat) : Int) = true
    · rw [if_pos (hc.2 hh), if_pos hh, dif_pos (by omega), dif_pos (by omega)]
      exact ih (n + 1) (by omega) (by omega) (by omega)
    · rw [if_neg (fun x => hh (hc.1 x)), if_neg hh]

theorem rName0 (s : List UInt8) (h0 : 0 < s.length) (h : s.length ≤ 24) : rName s 0 = if rLetter (((s.getD 0 0).toNat : Nat) : Int) = true then tLen_l2 s tInner 1 else 0 := by
  have w0 : IntKind.i64.wrap (0 + 0) = 0 := by decide
  have w1 : IntKind.i64.wrap (0 + 1) = 1 := by decide
  have hz : (0 : Int).toNat = 0 := rfl
  dsimp only [rName, bnd]
  rw [rName_l2]
  dsimp only [bnd]
  rw [w0, w1, hz]
  by_cases hlet : rLetter (((s.getD 0 0).toNat : Nat) : Int) = true
  · rw [if_pos hlet, if_pos ⟨by omega, Or.inl hlet⟩, dif_pos (by omega), name_len s h (s.length - 1) 1 (by omega) (by omega) (by omega)]
  · rw [if_neg hlet, if_neg]
    rintro ⟨_, h | ⟨h, _⟩⟩
    · exact hlet h
    · omega
theorem tLen0 (s : List UInt8) (h0 : 0 < s.length) (hlet : rLetter (((s.getD 0 0).toNat : Nat) : Int) = true) : tLen s tInner = tLen_l2 s tInner 1 := by
  have w1 : IntKind.i64.wrap (0 + 1) = 1 := by decide
  have hz : (0 : Int).toNat = 0 := rfl
  dsimp only [tLen, bnd]
  rw [tLen_l2]
  dsimp only [bnd]
  have hi : tInner (((s.getD 0 0).toNat : Nat) : Int) = true := by unfold tInner; rw [letter_eq, hlet]; rfl
  rw [w1, hz, if_pos ⟨by omega, hi⟩, dif_pos (by omega)]

theorem word_eq (s : List UInt8) : tWord s = rWord s := by
  dsimp only [tWord, rWord, bnd]
  by_cases h0 : s = []
  · subst h0; rfl
  have hl : 0 < s.length := List.length_pos_iff.2 h0
  by_cases h24 : s.length ≤ 24
  · have hL : (s.length : Int) ≤ 24 := by omega
    have hl' : (0 : Int) < (s.length : Int) := by omega
    rw [rName0 s hl h24, letter_eq, decide_eq_false h0, decide_eq_true hL, decide_eq_true hl']
    by_cases hlet : rLetter (((s.getD 0 0).toNat : Nat) : Int) = true
    · rw [if_pos hlet, tLen0 s hl hlet, hlet]; rfl
    · rw [if_neg hlet, show rLetter (((s.getD 0 0).toNat : Nat) : Int) = false by simpa using hlet, decide_eq_false (show ¬ ((0 : Int) = (s.length : Int)) by omega)]
      rfl
  · rw [decide_eq_false (show ¬ ((s.length : Int) ≤ 24) by omega)]
    simp

theorem word_first {s : List UInt8} (h : tWord s = true) : rLetter (((s.getD 0 0).toNat : Nat) : Int) = true := by
  dsimp only [tWord, bnd] at h
  simp only [Bool.and_eq_true] at h
  rw [← letter_eq]
  exact h.1.2

theorem upper_eq (s : List UInt8) : tUpper s = rUpper s := by
  dsimp only [tUpper, rUpper, bnd]
  rw [← word_eq]
  cases h : tWord s with
  | false => rfl
  | true =>
    have hl := word_first h
    unfold rLetter at hl
    simp only [Bool.or_eq_true, Bool.and_eq_true, decide_eq_true_eq] at hl
    have e : decide ((65 : Int) ≤ (((s.getD 0 0).toNat : Nat) : Int)) = true := by rw [decide_eq_true_eq]; omega
    rw [e]
    rfl
end Go.Proofs.Tryz
end
section
namespace Go.Proofs.Tryz
open Go Go.AM
set_option maxRecDepth 10000

mutual
def stripS : StmtD → StmtD
  | ⟨k, _, name, ty, p, rv, op, then_, else_, arms⟩ => ⟨k, 0, name, ty, p, rv, op, stripL then_, stripL else_, stripA arms⟩
def stripL : List StmtD → List StmtD
  | [] => []
  | t :: ts => stripS t :: stripL ts
def stripM : ArmD → ArmD
  | ⟨variant, bind, body⟩ => ⟨variant, bind, stripL body⟩
def stripA : List ArmD → List ArmD
  | [] => []
  | t :: ts => stripM t :: stripA ts
end
theorem stripL_map : ∀ l, stripL l = l.map stripS
  | [] => by rw [stripL]; rfl
  | t :: ts => by rw [stripL, stripL_map ts]; rfl
theorem stripA_map : ∀ l, stripA l = l.map stripM
  | [] => by rw [stripA]; rfl
  | t :: ts => by rw [stripA, stripA_map ts]; rfl
theorem stripS_iff (a b : StmtD) : stripS a = stripS b ↔ a.k = b.k ∧ a.name = b.name ∧ a.ty = b.ty ∧ a.p = b.p ∧ a.rv = b.rv ∧ a.op = b.op ∧ a.then_.map stripS = b.then_.map stripS ∧ a.else_.map stripS = b.else_.map stripS ∧ a.arms.map stripM = b.arms.map stripM := by
  obtain ⟨k, at_, name, ty, p, rv, op, then_, else_, arms⟩ := a
  obtain ⟨k', at_', name', ty', p', rv', op', then_', else_', arms'⟩ := b
  rw [stripS, stripS]
  simp only [stripL_map, stripA_map, StmtD.mk.injEq, true_and]
theorem stripM_iff (a b : ArmD) : stripM a = stripM b ↔ a.variant = b.variant ∧ a.bind = b.bind ∧ a.body.map stripS = b.body.map stripS := by
  obtain ⟨v, i, y⟩ := a
  obtain ⟨v', i', y'⟩ := b
  rw [stripM, stripM]
  simp only [stripL_map, ArmD.mk.injEq]

theorem TyD.ext_iff' (a b : TyD) : a = b ↔ a.k = b.k ∧ a.name = b.name ∧ a.l = b.l := by cases a; cases b; simp

theorem rSameTy_b_eq (r : TyD → TyD → Bool) (a b : TyD) : rSameTy_b r a b = (decide (a.k = b.k) && (decide (a.name = b.name) && all2 r a.l b.l)) := by
  unfold rSameTy_b
  by_cases hl : a.l.length = b.l.length
  · rw [run_loop (rSameTy_b_l4 r b) b.l r (fun j => by rw [rSameTy_b_l4]) (fun x xs j => by rw [rSameTy_b_l4]; dsimp only [bnd]; generalize b.l.getD j default = y; cases r x y <;> simp) _ _ hl]
    by_cases h1 : a.k = b.k <;> by_cases h2 : a.name = b.name <;> simp [h1, h2, hl]
  · rw [all2_false hl, if_pos (.inr (by omega))]
    simp

theorem rSameTy_f_iff : ∀ (k : Nat) (a b : TyD), SizeOf.sizeOf a < k → (rSameTy_f k a b = true ↔ a = b)
  | 0, _, _, h => absurd h (Nat.not_lt_zero _)
  | k + 1, a, b, h => by
    rw [rSameTy_f, rSameTy_b_eq, TyD.ext_iff']
    simp only [Bool.and_eq_true, decide_eq_true_eq]
    rw [all2_eq (fun x hx y => rSameTy_f_iff k x y (by have := List.sizeOf_lt_of_mem hx; have := sz_TyD_l a; omega))]

theorem rSameTy_iff (a b : TyD) : rSameTy a b = true ↔ a = b := rSameTy_f_iff _ _ _ (Nat.lt_succ_self _)

theorem step_iff (a b : StepD) : a = b ↔ a.field = b.field := by cases a; cases b; simp
theorem place_iff (a b : PlaceD) : a = b ↔ a.name = b.name ∧ a.path = b.path := by cases a; cases b; simp
theorem oper_iff (a b : OperD) : a = b ↔ a.num = b.num ∧ a.n = b.n ∧ a.p = b.p := by cases a; cases b; simp
theorem rv_iff (a b : RvD) : a = b ↔ a.k = b.k ∧ a.ops = b.ops ∧ a.p = b.p ∧ a.name = b.name ∧ a.variant = b.variant := by cases a; cases b; simp
theorem field_iff (a b : FieldD) : a = b ↔ a.name = b.name ∧ a.ty = b.ty := by cases a; cases b; simp
theorem variant_iff (a b : VariantD) : a = b ↔ a.name = b.name ∧ a.ty = b.ty := by cases a; cases b; simp

theorem rSamePlace_iff (a b : PlaceD) : rSamePlace a b = true ↔ a = b := by
  unfold rSamePlace
  by_cases hl : a.path.length = b.path.length
  · rw [run_loop (rSamePlace_l4 b) b.path (fun x y => decide (x.field = y.field)) (fun j => by rw [rSamePlace_l4]) (fun x xs j => by rw [rSamePlace_l4]; dsimp only [bnd]; generalize b.path.getD j default = y; by_cases h : x.field = y.field <;> simp [h]) _ _ hl]
    have := all2_eq (c := fun x y : StepD => decide (x.field = y.field)) (l := a.path) (l' := b.path) (fun x _ y => by rw [step_iff]; simp)
    rw [place_iff, ← this]
    by_cases h2 : a.name = b.name <;> simp [h2, hl]
  · rw [if_pos (.inr (by omega)), place_iff]
    constructor
    · intro h; cases h
    · rintro ⟨_, h⟩; rw [h] at hl; exact absurd rfl hl

theorem rSameOper_iff (a b : OperD) : rSameOper a b = true ↔ a = b := by
  unfold rSameOper
  rw [oper_iff]
  simp only [Bool.and_eq_true, decide_eq_true_eq, rSamePlace_iff, beq_iff_eq]
  constructor
  · rintro ⟨⟨x, y⟩, z⟩; exact ⟨y, z, x⟩
  · rintro ⟨y, z, x⟩; exact ⟨⟨x, y⟩, z⟩

theorem rSameRv_iff (a b : RvD) : rSameRv a b = true ↔ a = b := by
  unfold rSameRv
  by_cases hl : a.ops.length = b.ops.length
  · rw [run_loop (rSameRv_l5 b) b.ops rSameOper (fun j => by rw [rSameRv_l5]) (fun x xs j => by rw [rSameRv_l5]; dsimp only [bnd]; generalize b.ops.getD j default = y; cases rSameOper x y <;> simp) _ _ hl]
    have := all2_eq (c := rSameOper) (l := a.ops) (l' := b.ops) (fun x _ y => rSameOper_iff x y)
    rw [rv_iff, ← this, ← rSamePlace_iff a.p b.p]
    by_cases h1 : a.k = b.k <;> by_cases h2 : a.name = b.name <;> by_cases h3 : a.variant = b.variant <;> cases rSamePlace a.p b.p <;> simp [h1, h2, h3, hl]
  · rw [if_pos (.inr (by omega)), rv_iff]
    constructor
    · intro h; cases h
    · rintro ⟨_, h, _⟩; rw [h] at hl; exact absurd rfl hl

theorem rSameFields_iff (a b : List FieldD) : rSameFields a b = true ↔ a = b := by
  unfold rSameFields
  by_cases hl : a.length = b.length
  · rw [run_loop (rSameFields_l4 b) b (fun x y => rSameTy x.ty y.ty && decide (x.name = y.name)) (fun j => by rw [rSameFields_l4]) (fun x xs j => by rw [rSameFields_l4]; dsimp only [bnd]; generalize b.getD j default = y; cases rSameTy x.ty y.ty <;> by_cases h : x.name = y.name <;> simp [h]) _ _ hl]
    have := all2_eq (c := fun x y : FieldD => rSameTy x.ty y.ty && decide (x.name = y.name)) (l := a) (l' := b) (fun x _ y => by rw [field_iff, Bool.and_eq_true, rSameTy_iff, decide_eq_true_eq, and_comm])
    rw [← this]
    simp [hl]
  · rw [if_pos (by omega)]
    constructor
    · intro h; cases h
    · intro h; rw [h] at hl; exact absurd rfl hl

theorem rSameBlock_b_eq (rB : List StmtD → List StmtD → Bool) (r : StmtD → StmtD → Bool) (a b : List StmtD) : rSameBlock_b rB r a b = all2 r a b := by
  unfold rSameBlock_b
  by_cases hl : a.length = b.length
  · rw [run_loop (rSameBlock_b_l4 r b) b r (fun j => by rw [rSameBlock_b_l4]) (fun x xs j => by rw [rSameBlock_b_l4]; dsimp only [bnd]; generalize b.getD j default = y; cases r x y <;> simp) _ _ hl]
    simp [hl]
  · rw [all2_false hl, if_pos (by omega)]

theorem rSameStmt_b_eq (rB : List StmtD → List StmtD → Bool) (r : StmtD → StmtD → Bool) (a b : StmtD) : rSameStmt_b rB r a b =
    (decide (a.k = b.k) && (decide (a.name = b.name) && (rSameTy a.ty b.ty && (rSamePlace a.p b.p && (rSameRv a.rv b.rv && (rSameOper a.op b.op && (rB a.then_ b.then_ && (rB a.else_ b.else_ &&
      all2 (fun x y => decide (x.variant = y.variant) && (decide (x.bind = y.bind) && rB x.body y.body)) a.arms b.arms)))))))) := by
  unfold rSameStmt_b
  by_cases hl : a.arms.length = b.arms.length
  · rw [run_loop (rSameStmt_b_l7 rB b) b.arms (fun x y => decide (x.variant = y.variant) && (decide (x.bind = y.bind) && rB x.body y.body)) (fun j => by rw [rSameStmt_b_l7])
      (fun x xs j => by rw [rSameStmt_b_l7]; dsimp only [bnd]; generalize b.arms.getD j default = y; cases rB x.body y.body <;> by_cases h : x.variant = y.variant <;> by_cases h' : x.bind = y.bind <;> simp [h, h']) _ _ hl]
    by_cases h1 : a.k = b.k
    · by_cases h2 : a.name = b.name
      · cases rSameTy a.ty b.ty <;> cases rSamePlace a.p b.p <;> cases rSameRv a.rv b.rv <;> cases rSameOper a.op b.op <;> cases rB a.then_ b.then_ <;> cases rB a.else_ b.else_ <;> simp [h1, h2, hl]
      · rw [if_pos (.inl (.inr h2))]; simp [h2]
    · rw [if_pos (.inl (.inl (.inr h1)))]; simp [h1]
  · rw [all2_false hl, if_pos (.inr (by omega))]
    simp

theorem rSame_f_iff : ∀ k : Nat, (∀ a b : List StmtD, SizeOf.sizeOf a < k → (rSameBlock_f k a b = true ↔ a.map stripS = b.map stripS)) ∧ (∀ a b : StmtD, SizeOf.sizeOf a < k → (rSameStmt_f k a b = true ↔ stripS a = stripS b))
  | 0 => ⟨fun _ _ h => absurd h (Nat.not_lt_zero _), fun _ _ h => absurd h (Nat.not_lt_zero _)⟩
  | k + 1 => by
    obtain ⟨hB, hS⟩ := rSame_f_iff k
    refine ⟨fun a b h => ?_, fun a b h => ?_⟩
    · rw [rSameBlock_f, rSameBlock_b_eq]
      exact all2_map (fun x hx y => hS x y (by have := List.sizeOf_lt_of_mem hx; omega))
    · rw [rSameStmt_f, rSameStmt_b_eq, stripS_iff]
      have h1 := sz_StmtD_then_ a
      have h2 := sz_StmtD_else_ a
      have h3 := sz_StmtD_arms a
      simp only [Bool.and_eq_true, decide_eq_true_eq, rSameTy_iff, rSamePlace_iff, rSameRv_iff, rSameOper_iff]
      rw [hB a.then_ b.then_ (by omega), hB a.else_ b.else_ (by omega), all2_map (f := stripM) (fun x hx y => by
        have := List.sizeOf_lt_of_mem hx
        have := sz_ArmD_body x
        simp only [Bool.and_eq_true, decide_eq_true_eq]
        rw [hB x.body y.body (by omega), stripM_iff])]

theorem rSameBlock_iff (a b : List StmtD) : rSameBlock a b = true ↔ a.map stripS = b.map stripS := (rSame_f_iff _).1 a b (Nat.lt_succ_self _)
theorem rSameStmt_iff (a b : StmtD) : rSameStmt a b = true ↔ stripS a = stripS b := (rSame_f_iff _).2 a b (Nat.lt_succ_self _)

def stripSt (x : StructD) : StructD := { x with at_ := 0 }
def stripEn (x : EnumD) : EnumD := { x with at_ := 0 }
def stripFn (x : FnD) : FnD := { x with at_ := 0, body := x.body.map stripS }
theorem stripSt_iff (a b : StructD) : stripSt a = stripSt b ↔ a.name = b.name ∧ a.drop_ = b.drop_ ∧ a.fields = b.fields := by cases a; cases b; simp [stripSt]
theorem stripEn_iff (a b : EnumD) : stripEn a = stripEn b ↔ a.name = b.name ∧ a.variants = b.variants := by cases a; cases b; simp [stripEn]
theorem stripFn_iff (a b : FnD) : stripFn a = stripFn b ↔ a.name = b.name ∧ a.params = b.params ∧ a.body.map stripS = b.body.map stripS := by cases a; cases b; simp [stripFn]
/-- Two sources are the same, but for places. -/
def SameD (a b : SourceD) : Prop := a.structs.map stripSt = b.structs.map stripSt ∧ a.enums.map stripEn = b.enums.map stripEn ∧ a.fns.map stripFn = b.fns.map stripFn

theorem rSame_iff (a b : SourceD) : rSame a b = true ↔ SameD a b := by
  unfold rSame SameD
  by_cases h1 : a.structs.length = b.structs.length
  · by_cases h2 : a.enums.length = b.enums.length
    · by_cases h3 : a.fns.length = b.fns.length
      · rw [if_neg (by omega)]
        rw [run_loop (rSame_l4 b) b.structs (fun x y => rSameFields x.fields y.fields && (decide (x.name = y.name) && (x.drop_ == y.drop_))) (fun j => by rw [rSame_l4])
          (fun x xs j => by rw [rSame_l4]; dsimp only [bnd]; generalize b.structs.getD j default = y; cases rSameFields x.fields y.fields <;> by_cases h : x.name = y.name <;> by_cases h' : x.drop_ = y.drop_ <;> simp [h, h']) _ _ h1]
        rw [run_loop (rSame_l10 b) b.enums (fun x y => decide (x.name = y.name) && all2 (fun u v => rSameTy u.ty v.ty && decide (u.name = v.name)) x.variants y.variants) (fun j => by rw [rSame_l10])
          (fun x xs j => by
            rw [rSame_l10]; dsimp only [bnd]; generalize b.enums.getD j default = y
            by_cases h : x.name = y.name
            · by_cases h' : x.variants.length = y.variants.length
              · rw [if_neg (by rintro (q | q); exact q h; exact q (by omega))]
                rw [bind_loop (rSame_l17 y) y.variants (fun u v => rSameTy u.ty v.ty && decide (u.name = v.name)) (fun j => by rw [rSame_l17]) (fun u us i => by
                  rw [rSame_l17]; dsimp only [bnd]; generalize y.variants.getD i default = v
                  cases rSameTy u.ty v.ty <;> by_cases g : u.name = v.name <;> simp [g]) _ _ h']
                simp [h]
              · rw [if_pos (.inr (by omega)), all2_false h']; simp
            · rw [if_pos (.inl h)]; simp [h]) _ _ h2]
        rw [run_loop (rSame_l23 b) b.fns (fun x y => rSameFields x.params y.params && (rSameBlock x.body y.body && decide (x.name = y.name))) (fun j => by rw [rSame_l23])
          (fun x xs j => by rw [rSame_l23]; dsimp only [bnd]; generalize b.fns.getD j default = y; cases rSameFields x.params y.params <;> cases rSameBlock x.body y.body <;> by_cases h : x.name = y.name <;> simp [h]) _ _ h3]
        rw [Bool.and_eq_true, Bool.and_eq_true, Bool.and_true]
        rw [all2_map (f := stripSt) (fun x _ y => by rw [stripSt_iff]; simp only [Bool.and_eq_true, decide_eq_true_eq, beq_iff_eq, rSameFields_iff]; grind)]
        rw [all2_map (f := stripEn) (fun x _ y => by
          rw [stripEn_iff]; simp only [Bool.and_eq_true, decide_eq_true_eq]
          rw [all2_eq (fun u _ v => by rw [variant_iff, Bool.and_eq_true, rSameTy_iff, decide_eq_true_eq, and_comm])])]
        rw [all2_map (f := stripFn) (fun x _ y => by rw [stripFn_iff]; simp only [Bool.and_eq_true, decide_eq_true_eq, rSameFields_iff, rSameBlock_iff]; grind)]
      · rw [if_pos (.inr (by omega))]
        constructor
        · intro h; cases h
        · rintro ⟨_, _, h⟩; exact absurd (by simpa using congrArg List.length h) h3
    · rw [if_pos (.inl (.inr (by omega)))]
      constructor
      · intro h; cases h
      · rintro ⟨_, h, _⟩; exact absurd (by simpa using congrArg List.length h) h2
  · rw [if_pos (.inl (.inl (by omega)))]
    constructor
    · intro h; cases h
    · rintro ⟨h, _⟩; exact absurd (by simpa using congrArg List.length h) h1
end Go.Proofs.Tryz
end
section
namespace Go.Proofs.Tryz
open Go Go.AM
set_option maxRecDepth 10000

theorem eqTy_eq (a b : List TyD) (r : TyD → TyD → Bool) : eqTy a b r = all2 r a b := by
  unfold eqTy
  by_cases hl : a.length = b.length
  · rw [if_neg (by omega), run_loop (eqTy_l4 b r) b r (fun j => by rw [eqTy_l4]) (fun x xs j => by rw [eqTy_l4]; dsimp only [bnd]; generalize b.getD j default = y; cases r x y <;> simp) _ _ hl, Bool.and_true]
  · rw [all2_false hl, if_pos (by omega)]

theorem eqOper_eq (a b : List OperD) (r : OperD → OperD → Bool) : eqOper a b r = all2 r a b := by
  unfold eqOper
  by_cases hl : a.length = b.length
  · rw [if_neg (by omega), run_loop (eqOper_l4 b r) b r (fun j => by rw [eqOper_l4]) (fun x xs j => by rw [eqOper_l4]; dsimp only [bnd]; generalize b.getD j default = y; cases r x y <;> simp) _ _ hl, Bool.and_true]
  · rw [all2_false hl, if_pos (by omega)]

theorem eqStmt_eq (a b : List StmtD) (r : StmtD → StmtD → Bool) : eqStmt a b r = all2 r a b := by
  unfold eqStmt
  by_cases hl : a.length = b.length
  · rw [if_neg (by omega), run_loop (eqStmt_l4 b r) b r (fun j => by rw [eqStmt_l4]) (fun x xs j => by rw [eqStmt_l4]; dsimp only [bnd]; generalize b.getD j default = y; cases r x y <;> simp) _ _ hl, Bool.and_true]
  · rw [all2_false hl, if_pos (by omega)]

theorem eqArm_eq (a b : List ArmD) (r : ArmD → ArmD → Bool) : eqArm a b r = all2 r a b := by
  unfold eqArm
  by_cases hl : a.length = b.length
  · rw [if_neg (by omega), run_loop (eqArm_l4 b r) b r (fun j => by rw [eqArm_l4]) (fun x xs j => by rw [eqArm_l4]; dsimp only [bnd]; generalize b.getD j default = y; cases r x y <;> simp) _ _ hl, Bool.and_true]
  · rw [all2_false hl, if_pos (by omega)]

theorem eqField_eq (a b : List FieldD) (r : FieldD → FieldD → Bool) : eqField a b r = all2 r a b := by
  unfold eqField
  by_cases hl : a.length = b.length
  · rw [if_neg (by omega), run_loop (eqField_l4 b r) b r (fun j => by rw [eqField_l4]) (fun x xs j => by rw [eqField_l4]; dsimp only [bnd]; generalize b.getD j default = y; cases r x y <;> simp) _ _ hl, Bool.and_true]
  · rw [all2_false hl, if_pos (by omega)]

theorem eqVariant_eq (a b : List VariantD) (r : VariantD → VariantD → Bool) : eqVariant a b r = all2 r a b := by
  unfold eqVariant
  by_cases hl : a.length = b.length
  · rw [if_neg (by omega), run_loop (eqVariant_l4 b r) b r (fun j => by rw [eqVariant_l4]) (fun x xs j => by rw [eqVariant_l4]; dsimp only [bnd]; generalize b.getD j default = y; cases r x y <;> simp) _ _ hl, Bool.and_true]
  · rw [all2_false hl, if_pos (by omega)]

theorem eqStruct_eq (a b : List StructD) (r : StructD → StructD → Bool) : eqStruct a b r = all2 r a b := by
  unfold eqStruct
  by_cases hl : a.length = b.length
  · rw [if_neg (by omega), run_loop (eqStruct_l4 b r) b r (fun j => by rw [eqStruct_l4]) (fun x xs j => by rw [eqStruct_l4]; dsimp only [bnd]; generalize b.getD j default = y; cases r x y <;> simp) _ _ hl, Bool.and_true]
  · rw [all2_false hl, if_pos (by omega)]

theorem eqEnum_eq (a b : List EnumD) (r : EnumD → EnumD → Bool) : eqEnum a b r = all2 r a b := by
  unfold eqEnum
  by_cases hl : a.length = b.length
  · rw [if_neg (by omega), run_loop (eqEnum_l4 b r) b r (fun j => by rw [eqEnum_l4]) (fun x xs j => by rw [eqEnum_l4]; dsimp only [bnd]; generalize b.getD j default = y; cases r x y <;> simp) _ _ hl, Bool.and_true]
  · rw [all2_false hl, if_pos (by omega)]

theorem eqFn_eq (a b : List FnD) (r : FnD → FnD → Bool) : eqFn a b r = all2 r a b := by
  unfold eqFn
  by_cases hl : a.length = b.length
  · rw [if_neg (by omega), run_loop (eqFn_l4 b r) b r (fun j => by rw [eqFn_l4]) (fun x xs j => by rw [eqFn_l4]; dsimp only [bnd]; generalize b.getD j default = y; cases r x y <;> simp) _ _ hl, Bool.and_true]
  · rw [all2_false hl, if_pos (by omega)]

theorem eqStep_eq (a b : List StepD) : eqStep a b = all2 (fun x y => decide (x.field = y.field)) a b := by
  unfold eqStep
  by_cases hl : a.length = b.length
  · rw [if_neg (by omega), run_loop (eqStep_l4 b) b (fun x y => decide (x.field = y.field)) (fun j => by rw [eqStep_l4]) (fun x xs j => by rw [eqStep_l4]; dsimp only [bnd]; generalize b.getD j default = y; by_cases h : x.field = y.field <;> simp [h]) _ _ hl, Bool.and_true]
  · rw [all2_false hl, if_pos (by omega)]

theorem tSameTy_f_iff : ∀ (k : Nat) (a b : TyD), SizeOf.sizeOf a < k → (tSameTy_f k a b = true ↔ a = b)
  | 0, _, _, h => absurd h (Nat.not_lt_zero _)
  | k + 1, a, b, h => by
    rw [tSameTy_f, tSameTy_b, eqTy_eq, TyD.ext_iff']
    simp only [Bool.and_eq_true, decide_eq_true_eq]
    rw [all2_eq (fun x hx y => tSameTy_f_iff k x y (by have := List.sizeOf_lt_of_mem hx; have := sz_TyD_l a; omega)), and_assoc]
theorem tSameTy_iff (a b : TyD) : tSameTy a b = true ↔ a = b := tSameTy_f_iff _ _ _ (Nat.lt_succ_self _)
theorem tSamePlace_iff (a b : PlaceD) : tSamePlace a b = true ↔ a = b := by
  rw [tSamePlace, eqStep_eq, place_iff]
  simp only [Bool.and_eq_true, decide_eq_true_eq]
  rw [all2_eq (fun x _ y => by rw [step_iff]; simp)]
theorem tSameOper_iff (a b : OperD) : tSameOper a b = true ↔ a = b := by
  rw [tSameOper, oper_iff]
  simp only [Bool.and_eq_true, decide_eq_true_eq, tSamePlace_iff, beq_iff_eq, and_assoc]
theorem tSameRv_iff (a b : RvD) : tSameRv a b = true ↔ a = b := by
  rw [tSameRv, eqOper_eq, rv_iff]
  simp only [Bool.and_eq_true, decide_eq_true_eq, tSamePlace_iff]
  rw [all2_eq (fun x _ y => tSameOper_iff x y)]
  grind

theorem tSame_f_iff : ∀ k : Nat, (∀ a b : StmtD, SizeOf.sizeOf a < k → (tSameStmt_f k a b = true ↔ stripS a = stripS b)) ∧ (∀ a b : ArmD, SizeOf.sizeOf a < k → (tSameArm_f k a b = true ↔ stripM a = stripM b))
  | 0 => ⟨fun _ _ h => absurd h (Nat.not_lt_zero _), fun _ _ h => absurd h (Nat.not_lt_zero _)⟩
  | k + 1 => by
    obtain ⟨hS, hA⟩ := tSame_f_iff k
    refine ⟨fun a b h => ?_, fun a b h => ?_⟩
    · rw [tSameStmt_f, tSameStmt_b, stripS_iff, eqStmt_eq, eqStmt_eq, eqArm_eq]
      have h1 := sz_StmtD_then_ a
      have h2 := sz_StmtD_else_ a
      have h3 := sz_StmtD_arms a
      have e1 := all2_map (c := tSameStmt_f k) (f := stripS) (l := a.then_) (l' := b.then_) (fun x hx y => hS x y (by have := List.sizeOf_lt_of_mem hx; omega))
      have e2 := all2_map (c := tSameStmt_f k) (f := stripS) (l := a.else_) (l' := b.else_) (fun x hx y => hS x y (by have := List.sizeOf_lt_of_mem hx; omega))
      have e3 := all2_map (c := tSameArm_f k) (f := stripM) (l := a.arms) (l' := b.arms) (fun x hx y => hA x y (by have := List.sizeOf_lt_of_mem hx; omega))
      rw [← e1, ← e2, ← e3]
      rw [← tSameTy_iff a.ty b.ty, ← tSamePlace_iff a.p b.p, ← tSameRv_iff a.rv b.rv, ← tSameOper_iff a.op b.op]
      by_cases g1 : a.k = b.k <;> by_cases g2 : a.name = b.name <;> cases tSameTy a.ty b.ty <;> cases tSamePlace a.p b.p <;> cases tSameRv a.rv b.rv <;> cases tSameOper a.op b.op <;> simp [g1, g2, and_assoc]
    · rw [tSameArm_f, tSameArm_b, stripM_iff, eqStmt_eq]
      have h1 := sz_ArmD_body a
      rw [Bool.and_eq_true, Bool.and_eq_true, decide_eq_true_eq, decide_eq_true_eq]
      rw [all2_map (c := tSameStmt_f k) (f := stripS) (fun x hx y => hS x y (by have := List.sizeOf_lt_of_mem hx; omega)), and_assoc]
theorem tSameStmt_iff (a b : StmtD) : tSameStmt a b = true ↔ stripS a = stripS b := (tSame_f_iff _).1 a b (Nat.lt_succ_self _)

theorem tSameField_iff (a b : FieldD) : tSameField a b = true ↔ a = b := by
  rw [tSameField, field_iff]
  simp only [Bool.and_eq_true, decide_eq_true_eq, tSameTy_iff]

theorem tSame_iff (a b : SourceD) : tSame a b = true ↔ SameD a b := by
  unfold tSame SameD
  rw [eqStruct_eq, eqEnum_eq, eqFn_eq]
  simp only [Bool.and_eq_true]
  rw [all2_map (f := stripSt) (fun x _ y => by
    rw [stripSt_iff, tSame_1, eqField_eq]
    simp only [Bool.and_eq_true, decide_eq_true_eq, beq_iff_eq]
    rw [all2_eq (fun u _ v => tSameField_iff u v), and_assoc])]
  rw [all2_map (f := stripEn) (fun x _ y => by
    rw [stripEn_iff, tSame_3, eqVariant_eq]
    simp only [Bool.and_eq_true, decide_eq_true_eq]
    rw [all2_eq (fun u _ v => by rw [tSame_2, variant_iff]; simp only [Bool.and_eq_true, decide_eq_true_eq, tSameTy_iff])])]
  rw [all2_map (f := stripFn) (fun x _ y => by
    rw [stripFn_iff, tSame_4, eqField_eq, eqStmt_eq]
    simp only [Bool.and_eq_true, decide_eq_true_eq]
    rw [all2_eq (fun u _ v => tSameField_iff u v), all2_map (fun u _ v => tSameStmt_iff u v), and_assoc])]
  rw [and_assoc]

theorem SameD.symm' {a b : SourceD} : SameD a b ↔ SameD b a := by unfold SameD; constructor <;> (rintro ⟨h1, h2, h3⟩; exact ⟨h1.symm, h2.symm, h3.symm⟩)
theorem bool_iff {x y : Bool} {p : Prop} (h1 : x = true ↔ p) (h2 : y = true ↔ p) : x = y := by cases x <;> cases y <;> simp_all
theorem tSame_eq (a b : SourceD) : tSame a b = rSame a b := bool_iff (tSame_iff a b) (rSame_iff a b)
theorem tSame_swap (a b : SourceD) : tSame b a = rSame a b := bool_iff (tSame_iff b a) ((rSame_iff a b).trans SameD.symm')
theorem tSame_refl (a : SourceD) : tSame a a = true := (tSame_iff a a).2 ⟨rfl, rfl, rfl⟩
end Go.Proofs.Tryz
end
