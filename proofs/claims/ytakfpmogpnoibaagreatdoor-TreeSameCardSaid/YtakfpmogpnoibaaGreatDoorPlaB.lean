/- The plain law: the program's answer for a source that could have been read is the document's. -/
import Derived.Test.YtakfpmogpnoibaaGreatDoorPlaA
import Derived.Test.YtakfpmogpnoibaaGreatDoorValS
import Derived.Test.YtakfpmogpnoibaaGreatDoorValU
set_option linter.unusedVariables false
set_option linter.unusedSimpArgs false
set_option linter.constructorNameAsVariable false
section
namespace Go.Proofs.Tryz
open Go Go.AM
set_option maxRecDepth 10000

theorem ite_flip {a b : List UInt8} {x y : Bool} (h : x = y) : (if a = b then true else x) = (if b = a then true else y) := by
  subst h
  by_cases h : a = b
  · rw [if_pos h, if_pos h.symm]
  · rw [if_neg h, if_neg (fun e => h e.symm)]
theorem run_ite {c : Prop} [Decidable c] (x : Ctl Bool Unit) (f : Unit → Bool) : Ctl.run (if c then .ret true else x) f = if c then true else Ctl.run x f := by split <;> rfl
theorem res_eq (s : List UInt8) : tReserved s = rReserved s := by
  unfold tReserved rReserved resWords
  simp only [rReserved_l3, run_ite]
  iterate 20 refine ite_flip ?_
  rfl
theorem great_eq (s : List UInt8) : tGreat s = rGreat s := by unfold tGreat rGreat; rw [upper_eq, res_eq]
theorem small_eq (s : List UInt8) : tSmall s = rSmall s := by unfold tSmall rSmall; rw [upper_eq, res_eq, word_eq]
theorem vty_f_eq : ∀ k, tValidTy_f k = rValidTy_f k
  | 0 => rfl
  | k + 1 => by
    funext t d
    rw [tValidTy_f, rValidTy_f, vty_f_eq k]
    unfold tValidTy_b rValidTy_b
    rw [great_eq, small_eq]
theorem vty_eq (t : TyD) (d : Int) : tValidTy t d = rValidTy t d := by unfold tValidTy rValidTy; rw [vty_f_eq]

theorem allStep_eq (l : List StepD) (c : StepD → Bool) : allStep l c = l.all c := by
  unfold allStep
  rw [run_all (allStep_l2 c) c (by rw [allStep_l2]) (fun x xs => by rw [allStep_l2]; cases c x <;> simp) l, Bool.and_true]
theorem allOper_eq (l : List OperD) (c : OperD → Bool) : allOper l c = l.all c := by
  unfold allOper
  rw [run_all (allOper_l2 c) c (by rw [allOper_l2]) (fun x xs => by rw [allOper_l2]; cases c x <;> simp) l, Bool.and_true]
theorem allStmt_eq (l : List StmtD) (c : StmtD → Bool) : allStmt l c = l.all c := by
  unfold allStmt
  rw [run_all (allStmt_l2 c) c (by rw [allStmt_l2]) (fun x xs => by rw [allStmt_l2]; cases c x <;> simp) l, Bool.and_true]
theorem allArm_eq (l : List ArmD) (c : ArmD → Bool) : allArm l c = l.all c := by
  unfold allArm
  rw [run_all (allArm_l2 c) c (by rw [allArm_l2]) (fun x xs => by rw [allArm_l2]; cases c x <;> simp) l, Bool.and_true]
theorem allField_eq (l : List FieldD) (c : FieldD → Bool) : allField l c = l.all c := by
  unfold allField
  rw [run_all (allField_l2 c) c (by rw [allField_l2]) (fun x xs => by rw [allField_l2]; cases c x <;> simp) l, Bool.and_true]
theorem allVariant_eq (l : List VariantD) (c : VariantD → Bool) : allVariant l c = l.all c := by
  unfold allVariant
  rw [run_all (allVariant_l2 c) c (by rw [allVariant_l2]) (fun x xs => by rw [allVariant_l2]; cases c x <;> simp) l, Bool.and_true]
theorem allStruct_eq (l : List StructD) (c : StructD → Bool) : allStruct l c = l.all c := by
  unfold allStruct
  rw [run_all (allStruct_l2 c) c (by rw [allStruct_l2]) (fun x xs => by rw [allStruct_l2]; cases c x <;> simp) l, Bool.and_true]
theorem allEnum_eq (l : List EnumD) (c : EnumD → Bool) : allEnum l c = l.all c := by
  unfold allEnum
  rw [run_all (allEnum_l2 c) c (by rw [allEnum_l2]) (fun x xs => by rw [allEnum_l2]; cases c x <;> simp) l, Bool.and_true]
theorem allFn_eq (l : List FnD) (c : FnD → Bool) : allFn l c = l.all c := by
  unfold allFn
  rw [run_all (allFn_l2 c) c (by rw [allFn_l2]) (fun x xs => by rw [allFn_l2]; cases c x <;> simp) l, Bool.and_true]

theorem rValidPlace_eq (p : PlaceD) (b : Bool) : rValidPlace p b = (rSmall p.name && (!(b && decide (p.path ≠ [])) && p.path.all tValidPlace_1)) := by
  unfold rValidPlace
  rw [run_all rValidPlace_l4 tValidPlace_1 (by rw [rValidPlace_l4]) (fun x xs => by
    rw [rValidPlace_l4]; unfold tValidPlace_1; rw [small_eq]
    by_cases h : x.field = [] <;> cases rSmall x.field <;> simp [h]) p.path, Bool.and_true]
  cases h : rSmall p.name <;> cases b <;> by_cases h' : p.path = [] <;> simp [h']
theorem vplace_eq (p : PlaceD) : tValidPlace p = rValidPlace p false := by
  rw [tValidPlace, rValidPlace_eq, allStep_eq, small_eq]; simp
theorem vname_eq (p : PlaceD) : tValidName p = rValidPlace p true := by
  rw [tValidName, rValidPlace_eq, small_eq]
  cases h : p.path with
  | nil => simp
  | cons x l => simp; omega

theorem noPlace_iff (p : PlaceD) : rNoPlace p = true ↔ p = ⟨[], []⟩ := by
  rw [rNoPlace, place_iff]; simp
theorem noOper_iff (o : OperD) : rNoOper o = true ↔ o = ⟨false, 0, ⟨[], []⟩⟩ := by
  rw [rNoOper, oper_iff]; simp [noPlace_iff, and_assoc]
theorem noTy_iff (t : TyD) : rNoTy t = true ↔ t = ⟨0, [], []⟩ := by
  rw [rNoTy, TyD.ext_iff']; simp [and_assoc]
theorem noRv_iff (v : RvD) : rNoRv v = true ↔ v = ⟨0, [], ⟨[], []⟩, [], []⟩ := by
  rw [rNoRv, rv_iff]; simp [noPlace_iff, and_assoc]
theorem samePlace_none (p : PlaceD) : tSamePlace p ⟨[], []⟩ = rNoPlace p := bool_iff (tSamePlace_iff _ _) (noPlace_iff p)
theorem samePlace_self (p : PlaceD) : tSamePlace p p = true := (tSamePlace_iff _ _).2 rfl
theorem sameTy_none (t : TyD) : tSameTy t ⟨0, [], []⟩ = rNoTy t := bool_iff (tSameTy_iff _ _) (noTy_iff t)
theorem voper_eq (o : OperD) : tValidOper o = rValidOper o := by
  unfold tValidOper rValidOper
  rw [samePlace_none, vplace_eq, Bool.and_comm]
theorem ite_both {c : Prop} [Decidable c] {a b x y : Bool} (h1 : a = x) (h2 : b = y) : (if c then a else b) = (if c then x else y) := by rw [h1, h2]
theorem vrv_eq (v : RvD) : tValidRv v = rValidRv v := by
  unfold tValidRv rValidRv
  rw [run_all rValidRv_l2 rValidOper (by rw [rValidRv_l2]) (fun x xs => by rw [rValidRv_l2]; cases rValidOper x <;> simp) v.ops, allOper_eq]
  rw [show tValidOper = rValidOper from funext voper_eq]
  cases v.ops.all rValidOper with
  | false => rfl
  | true =>
    rw [if_neg (by simp), Bool.true_and]
    unfold bnd
    simp only [samePlace_none, samePlace_self, vplace_eq, vname_eq, great_eq, small_eq, decide_true, Bool.and_true]
    refine ite_both (by ac_rfl) (ite_both (by ac_rfl) (ite_both (by ac_rfl) (ite_both (by ac_rfl) (ite_both ?_ (ite_both ?_ (ite_both ?_ rfl))))))
    · ac_rfl
    · ac_rfl
    · ac_rfl

theorem rB_small {k : Nat} {l : List StmtD} {d : Int} (h : rValidBlock_f k l d = true) : d ≤ 60 := by
  cases k with
  | zero => cases h
  | succ k =>
    rw [rValidBlock_f, rValidBlock_b] at h
    by_cases hd : 60 < d
    · rw [if_pos hd] at h; cases h
    · omega
theorem rB_eq (k : Nat) (l : List StmtD) (d : Int) : rValidBlock_f (k + 1) l d = (decide (d ≤ 60) && l.all fun t => rValidStmt_f k t d) := by
  rw [rValidBlock_f, rValidBlock_b]
  by_cases hd : 60 < d
  · rw [if_pos hd, decide_eq_false (by omega)]; rfl
  · rw [if_neg hd, decide_eq_true (by omega)]
    rw [run_all (rValidBlock_b_l4 (rValidStmt_f k) d) (fun t => rValidStmt_f k t d) (by rw [rValidBlock_b_l4]) (fun x xs => by rw [rValidBlock_b_l4]; cases rValidStmt_f k x d <;> simp) l, Bool.and_true, Bool.true_and]
theorem rArms_eq (rB : List StmtD → Int → Bool) (l : List ArmD) (d : Int) (f : Unit → Bool) : Ctl.run (rValidStmt_b_l21 rB d l) f =
    ((l.all fun a => rGreat a.variant && ((decide (a.bind = []) || rSmall a.bind) && rB a.body (IntKind.i64.wrap (d + 1)))) && f ()) :=
  run_all (rValidStmt_b_l21 rB d) _ (by rw [rValidStmt_b_l21]) (fun x xs => by
    rw [rValidStmt_b_l21]; cases rGreat x.variant <;> by_cases h : x.bind = [] <;> cases rSmall x.bind <;> cases rB x.body (IntKind.i64.wrap (d + 1)) <;> simp [h]) l f

theorem map_nil {α β : Type} {f : α → β} {l : List α} : l.map f = [] ↔ l = [] := by cases l <;> simp
theorem len_nil {α : Type} {l : List α} : ((l.length : Int) = 0) ↔ l = [] := by cases l <;> simp <;> omega

/-- A statement has just the fields that its kind shows. -/
theorem shown_iff (t : StmtD) : tSameStmt t (tShown t) = true ↔
    (if t.k = 0 then t.p = ⟨[], []⟩ ∧ t.op = ⟨false, 0, ⟨[], []⟩⟩ ∧ t.then_ = [] ∧ t.else_ = [] ∧ t.arms = []
     else (t.name = [] ∧ t.ty = ⟨0, [], []⟩) ∧
      (if t.k = 1 then t.op = ⟨false, 0, ⟨[], []⟩⟩ ∧ t.then_ = [] ∧ t.else_ = [] ∧ t.arms = []
      else t.rv = ⟨0, [], ⟨[], []⟩, [], []⟩ ∧
       (if t.k = 2 then t.p = ⟨[], []⟩ ∧ t.arms = []
       else if t.k = 3 then t.p = ⟨[], []⟩ ∧ t.else_ = [] ∧ t.arms = []
       else (t.then_ = [] ∧ t.else_ = []) ∧ (if t.k = 4 then t.op = ⟨false, 0, ⟨[], []⟩⟩ else if t.k = 8 then t.op = ⟨false, 0, ⟨[], []⟩⟩ ∧ t.arms = [] else t.p = ⟨[], []⟩ ∧ t.arms = [])))) := by
  rw [tSameStmt_iff, stripS_iff]
  unfold tShown
  by_cases h0 : t.k = 0
  · simp only [if_pos h0, List.map_nil, map_nil]; grind
  by_cases h1 : t.k = 1
  · simp only [if_neg h0, if_pos h1, List.map_nil, map_nil]; grind
  by_cases h2 : t.k = 2
  · simp only [if_neg h0, if_neg h1, if_pos h2, List.map_nil, map_nil]; grind
  by_cases h3 : t.k = 3
  · simp only [if_neg h0, if_neg h1, if_neg h2, if_pos h3, List.map_nil, map_nil]; grind
  by_cases h4 : t.k = 4
  · simp only [if_neg h0, if_neg h1, if_neg h2, if_neg h3, if_pos h4, List.map_nil, map_nil]; grind
  by_cases h8 : t.k = 8
  · simp only [if_neg h0, if_neg h1, if_neg h2, if_neg h3, if_neg h4, if_pos h8, List.map_nil, map_nil]; grind
  · simp only [if_neg h0, if_neg h1, if_neg h2, if_neg h3, if_neg h4, if_neg h8, List.map_nil, map_nil]; grind
end Go.Proofs.Tryz
end
section
namespace Go.Proofs.Tryz
open Go Go.AM
set_option maxRecDepth 10000

theorem all_same {α : Type} {l : List α} {p q : α → Bool} (h : ∀ x ∈ l, p x = q x) : l.all p = l.all q := by
  induction l with
  | nil => rfl
  | cons x l ih => rw [List.all_cons, List.all_cons, h x (by simp), ih (fun y hy => h y (by simp [hy]))]

theorem tB_eq (k : Nat) (l : List StmtD) (d : Int) : tValidBlock_f (k + 1) l d = (decide (d ≤ 60) && l.all (tValidBlock_1 (tValidStmt_f k) d)) := by
  rw [tValidBlock_f, tValidBlock_b, allStmt_eq]
theorem tB1_eq (r : StmtD → Int → Bool) (d : Int) (t : StmtD) : tValidBlock_1 r d t = (tSameStmt t (tShown t) && r t (IntKind.i64.wrap (d + 1))) := rfl
theorem tA_eq (k : Nat) (a : ArmD) (d : Int) : tValidArm_f (k + 1) a d = (rGreat a.variant && ((decide (a.bind = []) || rSmall a.bind) && tValidBlock_f k a.body d)) := by
  rw [tValidArm_f, tValidArm_b, great_eq, small_eq, Bool.and_assoc]

theorem vmain (k : Nat) : ∀ k' : Nat, (∀ (l : List StmtD) (d : Int), SizeOf.sizeOf l < k → SizeOf.sizeOf l < k' → tValidBlock_f k l d = rValidBlock_f k' l d) ∧
    (∀ (t : StmtD) (d : Int), SizeOf.sizeOf t < k → SizeOf.sizeOf t < k' → (tSameStmt t (tShown t) && tValidStmt_f k t (IntKind.i64.wrap (d + 1))) = rValidStmt_f k' t d) := by
  induction k using Nat.strongRecOn with
  | ind k ih =>
    intro k'
    refine ⟨fun l d h1 h2 => ?_, fun t d h1 h2 => ?_⟩
    · obtain ⟨j, rfl⟩ : ∃ j, k = j + 1 := ⟨k - 1, by omega⟩
      obtain ⟨j', rfl⟩ : ∃ j, k' = j + 1 := ⟨k' - 1, by omega⟩
      rw [tB_eq, rB_eq]
      congr 1
      refine all_same fun t ht => ?_
      have := List.sizeOf_lt_of_mem ht
      rw [tB1_eq]
      exact (ih j (by omega) j').2 t d (by omega) (by omega)
    · obtain ⟨j, rfl⟩ : ∃ j, k = j + 1 := ⟨k - 1, by omega⟩
      obtain ⟨j', rfl⟩ : ∃ j, k' = j + 1 := ⟨k' - 1, by omega⟩
      have z1 := sz_StmtD_then_ t
      have z2 := sz_StmtD_else_ t
      have z3 := sz_StmtD_arms t
      generalize hw : IntKind.i64.wrap (d + 1) = w
      have e1 : tValidBlock_f j t.then_ w = rValidBlock_f j' t.then_ w := (ih j (by omega) j').1 _ _ (by omega) (by omega)
      have e2 : tValidBlock_f j t.else_ w = rValidBlock_f j' t.else_ w := (ih j (by omega) j').1 _ _ (by omega) (by omega)
      have e3 : (t.arms.all (tValidStmt_1 (tValidArm_f j) w)) = t.arms.all fun a => rGreat a.variant && ((decide (a.bind = []) || rSmall a.bind) && rValidBlock_f j' a.body w) := by
        refine all_same fun a ha => ?_
        have s1 := List.sizeOf_lt_of_mem ha
        have s2 := sz_ArmD_body a
        obtain ⟨i, rfl⟩ : ∃ i, j = i + 1 := ⟨j - 1, by omega⟩
        rw [tValidStmt_1, tA_eq, (ih i (by omega) j').1 a.body w (by omega) (by omega)]
      rw [tValidStmt_f, rValidStmt_f]
      unfold tValidStmt_b rValidStmt_b
      rw [rArms_eq, hw, e1, e2, allArm_eq, e3]
      generalize (t.arms.all fun a => rGreat a.variant && ((decide (a.bind = []) || rSmall a.bind) && rValidBlock_f j' a.body w)) = X
      have hz : t.else_ = [] → rValidBlock_f j' t.then_ w = true → rValidBlock_f j' t.else_ w = true := by
        intro h h2
        have := rB_small h2
        rw [h]
        obtain ⟨i, rfl⟩ : ∃ i, j' = i + 1 := ⟨j' - 1, by omega⟩
        rw [rB_eq]
        simpa using this
      generalize rValidBlock_f j' t.then_ w = Y at *
      generalize rValidBlock_f j' t.else_ w = Z at *
      rw [Bool.eq_iff_iff, Bool.and_eq_true, shown_iff]
      dsimp only [bnd]
      rw [vplace_eq, vname_eq, vrv_eq, voper_eq, small_eq, vty_eq]
      by_cases h0 : t.k = 0
      · simp only [if_pos h0, Bool.and_eq_true, decide_eq_true_eq, noPlace_iff, noOper_iff, len_nil]
        grind
      by_cases h1 : t.k = 1
      · simp only [if_neg h0, if_pos h1, Bool.and_eq_true, decide_eq_true_eq, noTy_iff, noOper_iff, len_nil]
        grind
      by_cases h2 : t.k = 2
      · simp only [if_neg h0, if_neg h1, if_pos h2, Bool.and_eq_true, decide_eq_true_eq, noTy_iff, noPlace_iff, noRv_iff, len_nil, if_true]
        grind
      by_cases h3 : t.k = 3
      · simp only [if_neg h0, if_neg h1, if_neg h2, if_pos h3, decide_eq_true h3, Bool.and_eq_true, decide_eq_true_eq, noTy_iff, noPlace_iff, noRv_iff, len_nil, if_true]
        grind
      have n2 : (if t.k = 2 then true else decide (t.k = 3)) = false := by rw [if_neg h2, decide_eq_false h3]
      rw [n2]
      by_cases h4 : t.k = 4
      · simp only [if_neg h0, if_neg h1, if_neg h2, if_neg h3, if_pos h4, Bool.and_eq_true, decide_eq_true_eq, noTy_iff, noPlace_iff, noRv_iff, noOper_iff, len_nil, Bool.false_eq_true, if_false, Bool.and_true]
        by_cases g1 : t.name = [] <;> by_cases g2 : t.ty = ⟨0, [], []⟩ <;> by_cases g3 : t.rv = ⟨0, [], ⟨[], []⟩, [], []⟩ <;> by_cases g4 : t.op = ⟨false, 0, ⟨[], []⟩⟩ <;> by_cases g5 : t.then_ = [] <;> by_cases g6 : t.else_ = [] <;> cases rValidPlace t.p true <;> simp [g1, g2, g3, g4, g5, g6, noTy_iff, noRv_iff, noOper_iff]
      by_cases h8 : t.k = 8
      · have n5 : (if t.k = 5 then true else if t.k = 6 then true else decide (t.k = 7)) = false := by rw [h8]; rfl
        simp only [n5, if_neg h0, if_neg h1, if_neg h2, if_neg h3, if_neg h4, if_pos h8, Bool.and_eq_true, decide_eq_true_eq, noTy_iff, noPlace_iff, noRv_iff, noOper_iff, len_nil, Bool.false_eq_true, if_false]
        grind
      · generalize (if t.k = 5 then true else if t.k = 6 then true else decide (t.k = 7)) = c
        cases c <;> simp only [if_true, if_neg h0, if_neg h1, if_neg h2, if_neg h3, if_neg h4, if_neg h8, Bool.and_eq_true, decide_eq_true_eq, noTy_iff, noPlace_iff, noRv_iff, noOper_iff, len_nil, Bool.false_eq_true, if_false] <;> grind

theorem vblock_eq (l : List StmtD) (d : Int) : tValidBlock l d = rValidBlock l d := (vmain _ _).1 l d (Nat.lt_succ_self _) (Nat.lt_succ_self _)
theorem rB_free {k k' : Nat} {l : List StmtD} (d : Int) (h : SizeOf.sizeOf l < k) (h' : SizeOf.sizeOf l < k') : rValidBlock_f k l d = rValidBlock_f k' l d := ((vmain k k).1 l d h h).symm.trans ((vmain k k').1 l d h h')

theorem rFields_eq (l : List FieldD) : rValidFields l = l.all fun f => rSmall f.name && rValidTy f.ty 0 := by
  unfold rValidFields
  rw [run_all rValidFields_l2 (fun f => rSmall f.name && rValidTy f.ty 0) (by rw [rValidFields_l2]) (fun x xs => by rw [rValidFields_l2]; cases rSmall x.name <;> cases rValidTy x.ty 0 <;> simp) l, Bool.and_true]
theorem tFields_eq (l : List FieldD) : allField l tValidField = rValidFields l := by
  rw [allField_eq, rFields_eq]
  exact all_same fun x _ => by rw [tValidField, small_eq, vty_eq]
theorem rValid05_eq (s : SourceD) : rValid05 s = ((s.structs.all fun x => rGreat x.name && rValidFields x.fields) && ((s.enums.all fun x => rGreat x.name && x.variants.all fun v => rGreat v.name && (rNoTy v.ty || rValidTy v.ty 0)) &&
    s.fns.all fun x => rSmall x.name && (rValidFields x.params && rValidBlock x.body 1))) := by
  unfold rValid05
  rw [run_all rValid05_l2 (fun x => rGreat x.name && rValidFields x.fields) (by rw [rValid05_l2]) (fun x xs => by rw [rValid05_l2]; cases rGreat x.name <;> cases rValidFields x.fields <;> simp) s.structs]
  rw [run_all rValid05_l7 (fun x => rGreat x.name && x.variants.all fun v => rGreat v.name && (rNoTy v.ty || rValidTy v.ty 0)) (by rw [rValid05_l7]) (fun x xs => by
    rw [rValid05_l7]
    rw [loop_all (r := false) rValid05_l12 (fun v => rGreat v.name && (rNoTy v.ty || rValidTy v.ty 0)) (by rw [rValid05_l12]) (fun v vs => by rw [rValid05_l12]; cases rGreat v.name <;> cases rNoTy v.ty <;> cases rValidTy v.ty 0 <;> simp) x.variants]
    cases rGreat x.name <;> cases (x.variants.all fun v => rGreat v.name && (rNoTy v.ty || rValidTy v.ty 0)) <;> simp [Ctl.bind]) s.enums]
  rw [run_all rValid05_l18 (fun x => rSmall x.name && (rValidFields x.params && rValidBlock x.body 1)) (by rw [rValid05_l18]) (fun x xs => by
    rw [rValid05_l18]; cases rSmall x.name <;> cases rValidFields x.params <;> cases rValidBlock x.body 1 <;> simp) s.fns, Bool.and_true]
theorem valid05_eq (s : SourceD) : tValid05 s = rValid05 s := by
  rw [rValid05_eq, tValid05, allStruct_eq, allEnum_eq, allFn_eq, Bool.and_assoc]
  rw [all_same (l := s.structs) (q := fun x => rGreat x.name && rValidFields x.fields) fun x _ => by rw [tValid_1, great_eq, tFields_eq]]
  rw [all_same (l := s.enums) (q := fun x => rGreat x.name && x.variants.all fun v => rGreat v.name && (rNoTy v.ty || rValidTy v.ty 0)) fun x _ => by
    rw [tValid_2, great_eq, allVariant_eq]
    congr 1
    exact all_same fun v _ => by rw [tValidVariant, great_eq, sameTy_none, vty_eq]]
  rw [all_same (l := s.fns) (q := fun x => rSmall x.name && (rValidFields x.params && rValidBlock x.body 1)) fun x _ => by rw [tValid_3, small_eq, tFields_eq, vblock_eq, Bool.and_assoc]]
end Go.Proofs.Tryz
end
