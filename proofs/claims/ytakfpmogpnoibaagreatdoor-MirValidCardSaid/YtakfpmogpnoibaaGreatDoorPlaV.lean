/- The plain law: the program's answer is the document's. -/
import Derived.Test.YtakfpmogpnoibaaGreatDoorRefB
import Derived.Test.YtakfpmogpnoibaaGreatDoorMirA
import Derived.Test.YtakfpmogpnoibaaGreatDoorRefE
import Derived.Test.YtakfpmogpnoibaaGreatDoorMirD
set_option linter.unusedVariables false
set_option linter.unusedSimpArgs false
set_option linter.constructorNameAsVariable false
section
namespace Go.Proofs.Tryz
open Go Go.AM

theorem kStruct_eq (c : List UInt8) : ∀ (l : List StructD) (j : Nat), ixStruct_l2 (kStructOf_1 c) l j = rStructOf_l2 c l j
  | [], _ => rfl
  | x :: l, j => by simp only [ixStruct_l2, rStructOf_l2, kStructOf_1, decide_eq_true_eq]; rw [kStruct_eq c l]
theorem kStructOf_eq (s : SourceD) (c : List UInt8) : kStructOf s c = rStructOf s c := by simp only [kStructOf, ixStruct, rStructOf, kStruct_eq]
theorem kEnum_eq (c : List UInt8) : ∀ (l : List EnumD) (j : Nat), ixEnum_l2 (kEnumOf_1 c) l j = rEnumOf_l2 c l j
  | [], _ => rfl
  | x :: l, j => by simp only [ixEnum_l2, rEnumOf_l2, kEnumOf_1, decide_eq_true_eq]; rw [kEnum_eq c l]
theorem kEnumOf_eq (s : SourceD) (c : List UInt8) : kEnumOf s c = rEnumOf s c := by simp only [kEnumOf, ixEnum, rEnumOf, kEnum_eq]
theorem kFn_eq (c : List UInt8) : ∀ (l : List FnD) (j : Nat), ixFn_l2 (kFnOf_1 c) l j = rFnOf_l2 c l j
  | [], _ => rfl
  | x :: l, j => by simp only [ixFn_l2, rFnOf_l2, kFnOf_1, decide_eq_true_eq]; rw [kFn_eq c l]
theorem kFnOf_eq (s : SourceD) (c : List UInt8) : kFnOf s c = rFnOf s c := by simp only [kFnOf, ixFn, rFnOf, kFn_eq]

theorem run_ite {ρ ν : Type} {c : Prop} [Decidable c] {a b : Ctl ρ ν} {f : ν → ρ} : (if c then a else b).run f = if c then a.run f else b.run f := by split <;> rfl
theorem bind_ite {ρ ν μ : Type} {c : Prop} [Decidable c] {a b : Ctl ρ ν} {f : ν → Ctl ρ μ} : (if c then a else b).bind f = if c then a.bind f else b.bind f := by split <;> rfl
theorem run_bind {ρ ν μ : Type} {a : Ctl ρ ν} {g : ν → Ctl ρ μ} {f : μ → ρ} : (a.bind g).run f = a.run fun v => (g v).run f := by cases a <;> rfl
theorem ixTy_any (f : TyD → Bool) : ∀ (l : List TyD) (j : Nat), 0 ≤ ((ixTy_l2 f l j).run fun _ => (-1 : Int)) ↔ l.any f = true
  | [], j => by simp [ixTy_l2, Ctl.run]
  | x :: l, j => by
    rw [List.any_cons]
    by_cases h : f x = true
    · rw [show ixTy_l2 f (x :: l) j = .ret (j : Int) from if_pos h, h]; simp [Ctl.run]
    · rw [show ixTy_l2 f (x :: l) j = ixTy_l2 f l (j + 1) from if_neg h, Bool.eq_false_iff.2 h]; simpa using ixTy_any f l (j + 1)
theorem cfTy_any (l : List TyD) (f : TyD → Bool) : cfTy l f = l.any f := by
  unfold cfTy ixTy
  rw [Bool.eq_iff_iff, decide_eq_true_eq]
  exact ixTy_any f l 0
theorem rHolds_any (f : TyD → Bool) : ∀ (l : List TyD), ((rHolds_b_l4 f l).run fun _ => false) = l.any f
  | [] => rfl
  | x :: l => by
    simp only [rHolds_b_l4, List.any_cons]
    by_cases h : f x = true
    · rw [if_pos h, h]; simp [Ctl.run]
    · rw [if_neg h, Bool.eq_false_iff.2 h]; simpa using rHolds_any f l
theorem kHolds_b_eq (r : TyD → Bool) (t : TyD) : kHolds_b r t = rHolds_b r t := by
  unfold kHolds_b rHolds_b
  rw [cfTy_any, rHolds_any]
  by_cases h5 : t.k = 5 <;> by_cases h6 : t.k = 6 <;> simp_all
theorem kHolds_f_eq : ∀ k, kHolds_f k = rHolds_f k
  | 0 => rfl
  | k + 1 => by funext t; simp only [kHolds_f, rHolds_f]; rw [kHolds_f_eq k]; exact kHolds_b_eq _ _
theorem kHolds_eq : kHolds = rHolds := by funext t; unfold kHolds rHolds; rw [kHolds_f_eq]

theorem eqTy_l_eq (r : TyD → TyD → Bool) (b : TyD) : ∀ (l : List TyD) (j : Nat), eqTy_l4 b.l r l j = rSameTy_b_l4 r b l j
  | [], _ => rfl
  | x :: l, j => by simp only [eqTy_l4, rSameTy_b_l4, bnd]; rw [eqTy_l_eq r b l]
theorem mSame_b_eq (r : TyD → TyD → Bool) (a b : TyD) : mSame_b r a b = rSameTy_b r a b := by
  unfold mSame_b rSameTy_b eqTy
  rw [eqTy_l_eq]
  by_cases h1 : a.k = b.k <;> by_cases h2 : a.name = b.name <;> by_cases h3 : (a.l.length : Int) = b.l.length <;> simp_all
theorem mSame_f_eq : ∀ k, mSame_f k = rSameTy_f k
  | 0 => rfl
  | k + 1 => by funext a b; simp only [mSame_f, rSameTy_f]; rw [mSame_f_eq k]; exact mSame_b_eq _ _ _
theorem mSame_eq : mSame = rSameTy := by funext a b; unfold mSame rSameTy; rw [mSame_f_eq]

theorem kResolve_b_eq (r : SourceD → TyD → TyD × Int) (s : SourceD) (t : TyD) : kResolve_b r s t = rResolve_b r s t := by
  unfold kResolve_b rResolve_b
  simp only [kStructOf_eq, kEnumOf_eq, kFnOf_eq, bnd]
  by_cases h1 : t.k = 1
  · simp [h1, Ctl.run]
  by_cases h2 : t.k = 2
  · simp only [h1, h2, if_true, if_false]
    by_cases h : rStructOf s t.name < 0
    · have h' : ¬ 0 ≤ rStructOf s t.name := by omega
      by_cases h3 : rEnumOf s t.name < 0
      · have h3' : ¬ 0 ≤ rEnumOf s t.name := by omega
        simp [h, h', h3, h3', Ctl.run]
      · have h3' : 0 ≤ rEnumOf s t.name := by omega
        simp [h, h', h3, h3', Ctl.run]
    · have h' : 0 ≤ rStructOf s t.name := by omega
      simp [h, h', Ctl.run]
  by_cases h3 : t.k = 3
  · simp only [h1, h2, h3, if_true, if_false]
    by_cases h : rEnumOf s t.name < 0
    · have h' : ¬ 0 ≤ rEnumOf s t.name := by omega
      simp [h, h', Ctl.run]
    · have h' : 0 ≤ rEnumOf s t.name := by omega
      simp [h, h', Ctl.run]
  by_cases h7 : t.k = 7
  · simp only [h1, h2, h3, h7, if_true, if_false]
    by_cases h : rFnOf s t.name < 0
    · have h' : ¬ 0 ≤ rFnOf s t.name := by omega
      simp [h, h', Ctl.run]
    · have h' : 0 ≤ rFnOf s t.name := by omega
      simp [h, h', Ctl.run]
  simp only [h1, h2, h3, h7, if_false, run_ite, Ctl.run_ret, Ctl.run_go, not_true_eq_false]
theorem kResolve_f_eq : ∀ k, kResolve_f k = rResolve_f k
  | 0 => rfl
  | k + 1 => by funext s t; simp only [kResolve_f, rResolve_f]; rw [kResolve_f_eq k]; exact kResolve_b_eq _ _ _
theorem kResolve_eq : kResolve = rResolve := by funext s t; unfold kResolve rResolve; rw [kResolve_f_eq]
theorem kCopies_eq : kCopies = rCopies := by
  funext t
  unfold kCopies rCopies
  by_cases h0 : t.k = 0 <;> by_cases h1 : t.k = 1 <;> by_cases h5 : t.k = 5 <;> simp_all

theorem mSpot_l_eq (s : SourceD) (b : BodyD) : ∀ (l : List Int) (sh : Bool) (t : TyD), mSpot_l5 ⟨s, b⟩ l sh t = rType_l6 s l sh t
  | [], _, _ => rfl
  | k :: l, sh, t => by
    simp only [mSpot_l5, rType_l6, mStep, kStructOf_eq, kResolve_eq, bnd]
    by_cases hk : k = -1
    · simp only [hk, if_true]
      by_cases hl : (t.l.length : Int) = 1
      · by_cases h4 : t.k = 4
        · simp [hl, h4, Ctl.run, mSpot_l_eq s b l]
        by_cases h5 : t.k = 5
        · simp [hl, h5, Ctl.run, mSpot_l_eq s b l]
        by_cases h6 : t.k = 6
        · simp [hl, h6, Ctl.run, mSpot_l_eq s b l]
        simp [h4, h5, h6, Ctl.run]
      · simp [hl, Ctl.run]
    · simp only [hk, if_false, decide_false, Bool.false_and, Bool.or_false]
      split
      · simp
      · by_cases he : (rResolve s ((s.structs.getD (rStructOf s t.name).toNat default).fields.getD k.toNat default).ty).2 = 0
        · simp only [he, decide_true, not_true_eq_false, if_false]
          exact mSpot_l_eq s b l _ _
        · simp only [he, decide_false, not_false_eq_true, if_true, Bool.false_eq_true]
theorem mSpot_eq (s : SourceD) (b : BodyD) (x : SpotD) : mSpot ⟨s, b⟩ x = rType s b x := by
  unfold mSpot rType
  simp only [mSpot_l_eq, bnd]
theorem mType_eq (s : SourceD) (b : BodyD) (x : SpotD) : mType s b x = rType s b x := by
  unfold mType
  rw [mSpot_eq]
theorem mEmpty_eq : mEmpty = rNoSpot := rfl
theorem mUse_eq (s : SourceD) (b : BodyD) (u : UseD) : mUse ⟨s, b⟩ u = rUse s b u := by
  unfold mUse rUse
  simp only [mSpot_eq, kCopies_eq, mEmpty_eq]
  first | done | rfl | grind
theorem mUses_l_eq (s : SourceD) (b : BodyD) (w : List TyD) : ∀ (l : List UseD) (j : Nat), mUses_l4 ⟨s, b⟩ w l j = rUses_l4 s b w l j
  | [], _ => rfl
  | u :: l, j => by simp only [mUses_l4, rUses_l4, mUse_eq, kResolve_eq, mSame_eq, mUses_l_eq s b w l]
theorem mUses_eq (s : SourceD) (b : BodyD) (l : List UseD) (w : List TyD) : mUses ⟨s, b⟩ l w = rUses s b l w := by
  unfold mUses rUses
  rw [mUses_l_eq]
theorem mTypes_l_eq : ∀ (l : List FieldD) (a : List TyD), mTypes_l3 l a = rTys_l3 l a
  | [], _ => rfl
  | x :: l, a => by simp only [mTypes_l3, rTys_l3, mTypes_l_eq l]
theorem mTypes_eq : mTypes = rTys := by funext l; unfold mTypes rTys; rw [mTypes_l_eq]

theorem mRefers_eq (s : SourceD) (b : BodyD) (v : ValueD) : mRefers ⟨s, b⟩ v =
    (if ¬ ((rType s b v.s).2.2 = 0) then (⟨0, [], []⟩, (rType s b v.s).2.2) else if rHolds (rType s b v.s).1 = true then (⟨0, [], []⟩, 73) else
      if v.k = 7 ∧ (rType s b v.s).2.1 = true then (⟨0, [], []⟩, 84) else if 0 < (v.uses.length : Int) then (⟨0, [], []⟩, 81) else (⟨if v.k = 7 then 6 else 5, [], [(rType s b v.s).1]⟩, 0)) := by
  unfold mRefers
  simp only [mSpot_eq, kHolds_eq, bnd]
  by_cases h : v.k = 7 <;> simp [h]

theorem mValue_eq (s : SourceD) (b : BodyD) (v : ValueD) : mValue ⟨s, b⟩ v = rValue s b v := by
  unfold mValue rValue mWhich
  simp only [mRefers_eq, mUnboxes, mMade, mSpot_eq, mEmpty_eq, mUses_eq, mUse_eq, mTypes_eq, kHolds_eq, bnd, rNone]
  by_cases h0 : v.k = 0
  · simp only [h0]; simp [run_ite, bind_ite, run_bind, Ctl.run_ret, Ctl.run_go, Ctl.bind_ret, Ctl.bind_go]; grind
  by_cases h8 : v.k = 8
  · simp only [h8]; simp [run_ite, bind_ite, run_bind, Ctl.run_ret, Ctl.run_go, Ctl.bind_ret, Ctl.bind_go]; grind
  by_cases h6 : v.k = 6
  · simp only [h6]
    by_cases hu : v.uses = []
    · by_cases hw : v.which = 0 <;> by_cases ht : v.tag = 0 <;> simp [hu, hw, ht, run_ite, bind_ite, run_bind, Ctl.run_ret, Ctl.run_go, Ctl.bind_ret, Ctl.bind_go] <;> grind
    · have hp := List.length_pos_iff.2 hu
      by_cases hw : v.which = 0 <;> by_cases ht : v.tag = 0 <;> simp [hu, hp, hw, ht, run_ite, bind_ite, run_bind, Ctl.run_ret, Ctl.run_go, Ctl.bind_ret, Ctl.bind_go] <;> grind
  by_cases h7 : v.k = 7
  · simp only [h7]
    by_cases hu : v.uses = []
    · by_cases hw : v.which = 0 <;> by_cases ht : v.tag = 0 <;> simp [hu, hw, ht, run_ite, bind_ite, run_bind, Ctl.run_ret, Ctl.run_go, Ctl.bind_ret, Ctl.bind_go] <;> grind
    · have hp := List.length_pos_iff.2 hu
      by_cases hw : v.which = 0 <;> by_cases ht : v.tag = 0 <;> simp [hu, hp, hw, ht, run_ite, bind_ite, run_bind, Ctl.run_ret, Ctl.run_go, Ctl.bind_ret, Ctl.bind_go] <;> grind
  by_cases h9 : v.k = 9
  · simp only [h9]
    by_cases hu : v.uses = []
    · by_cases hw : v.which = 0 <;> by_cases ht : v.tag = 0 <;> simp [hu, hw, ht, run_ite, bind_ite, run_bind, Ctl.run_ret, Ctl.run_go, Ctl.bind_ret, Ctl.bind_go] <;> grind
    · have hp := List.length_pos_iff.2 hu
      by_cases hw : v.which = 0 <;> by_cases ht : v.tag = 0 <;> simp [hu, hp, hw, ht, run_ite, bind_ite, run_bind, Ctl.run_ret, Ctl.run_go, Ctl.bind_ret, Ctl.bind_go] <;> grind
  by_cases h10 : v.k = 10
  · simp only [h10]; simp [run_ite, bind_ite, run_bind, Ctl.run_ret, Ctl.run_go, Ctl.bind_ret, Ctl.bind_go]; grind
  by_cases h11 : v.k = 11
  · simp only [h11]; simp [run_ite, bind_ite, run_bind, Ctl.run_ret, Ctl.run_go, Ctl.bind_ret, Ctl.bind_go]; grind
  by_cases h12 : v.k = 12
  · simp only [h12]; simp [run_ite, bind_ite, run_bind, Ctl.run_ret, Ctl.run_go, Ctl.bind_ret, Ctl.bind_go]; grind
  simp only [h0, h8, h6, h7, h9, h10, h11, h12]; simp [run_ite, bind_ite, run_bind, Ctl.run_ret, Ctl.run_go, Ctl.bind_ret, Ctl.bind_go]; grind
theorem mValueF_eq (s : SourceD) (b : BodyD) (v : ValueD) : mValueF s b v = rValue s b v := by
  unfold mValueF
  rw [mValue_eq]
end Go.Proofs.Tryz
end
section
namespace Go.Proofs.Tryz
open Go Go.AM

theorem sameL (r : TyD → TyD → Bool) (b : TyD) : ∀ (l : List TyD) (j : Nat), ((rSameTy_b_l4 r b l j).run fun _ => true) = true ↔ ∀ (i : Nat) (x : TyD), l[i]? = some x → r x (b.l.getD (j + i) default) = true
  | [], j => by simp [rSameTy_b_l4, Ctl.run]
  | x :: l, j => by
    by_cases h : r x (b.l.getD j default) = true
    · have e : rSameTy_b_l4 r b (x :: l) j = rSameTy_b_l4 r b l (j + 1) := by
        simp only [rSameTy_b_l4, bnd]
        rw [if_neg (by simpa using h)]
      rw [e, sameL r b l (j + 1)]
      constructor
      · intro H i y hy
        cases i with
        | zero => simp at hy; subst hy; simpa using h
        | succ i =>
          have := H i y (by simpa using hy)
          rwa [show j + 1 + i = j + (i + 1) by omega] at this
      · intro H i y hy
        have := H (i + 1) y (by simpa using hy)
        rwa [show j + (i + 1) = j + 1 + i by omega] at this
    · have e : rSameTy_b_l4 r b (x :: l) j = .ret false := by
        simp only [rSameTy_b_l4, bnd]
        rw [if_pos h]
      rw [e]
      constructor
      · intro H; cases H
      · intro H; exact absurd (by simpa using H 0 x rfl) h
theorem same_f : ∀ (k : Nat) (a b : TyD), SizeOf.sizeOf a < k → (rSameTy_f k a b = true ↔ a = b)
  | 0, _, _, h => absurd h (Nat.not_lt_zero _)
  | k + 1, a, b, h => by
    have hsz : ∀ x ∈ a.l, SizeOf.sizeOf x < k := by
      intro x hx
      have h1 := List.sizeOf_lt_of_mem hx
      have h2 := sz_TyD_l a
      omega
    rw [rSameTy_f]
    unfold rSameTy_b
    split
    · rename_i hc
      constructor
      · intro H; cases H
      · rintro rfl; simp at hc
    · rename_i hc
      have h1 : a.k = b.k := by
        by_cases q : a.k = b.k
        · exact q
        · exact absurd (.inl (.inl q)) hc
      have h2 : a.name = b.name := by
        by_cases q : a.name = b.name
        · exact q
        · exact absurd (.inl (.inr q)) hc
      have h3 : a.l.length = b.l.length := by
        by_cases q : (a.l.length : Int) = b.l.length
        · omega
        · exact absurd (.inr q) hc
      rw [sameL]
      constructor
      · intro H
        have hl : a.l = b.l := by
          refine List.ext_getElem h3 fun i q1 q2 => ?_
          have := H i a.l[i] (List.getElem?_eq_getElem q1)
          rw [Nat.zero_add, List.getD_eq_getElem?_getD, List.getElem?_eq_getElem q2] at this
          exact (same_f k _ _ (hsz _ (List.getElem_mem q1))).1 this
        cases a; cases b
        simp_all
      · rintro rfl i x hx
        rw [Nat.zero_add, List.getD_eq_getElem?_getD, hx]
        exact (same_f k x x (hsz _ (List.mem_of_getElem? hx))).2 rfl
theorem rSameTy_iff (a b : TyD) : rSameTy a b = true ↔ a = b := same_f _ a b (Nat.lt_succ_self _)
theorem rSameTy_refl (a : TyD) : rSameTy a a = true := (rSameTy_iff a a).2 rfl
theorem rSameTy_symm (a b : TyD) : rSameTy a b = rSameTy b a := by
  rw [Bool.eq_iff_iff, rSameTy_iff, rSameTy_iff]
  exact eq_comm

end Go.Proofs.Tryz
end
section
namespace Go.Proofs.Tryz
open Go Go.AM

theorem mNoUse_eq : mNoUse = rNoUse := rfl
theorem mNoValue_eq : mNoValue = rNoValue := rfl
theorem mBare_eq (s : SourceD) (b : BodyD) (x : SpotD) : mBare ⟨s, b⟩ x = rBare b x := by
  unfold mBare rBare
  rfl
theorem mNumber_eq (s : SourceD) (b : BodyD) (u : UseD) : mNumber ⟨s, b⟩ u = rNum s b u := by
  unfold mNumber rNum mIs
  simp only [mUse_eq]
theorem mVariants_pos {s : SourceD} {b : BodyD} {x : SpotD} (h : 0 ≤ rEnum s b x) : mVariants ⟨s, b⟩ x = ((s.enums.getD (rEnum s b x).toNat default).variants, true) := by
  unfold mVariants
  unfold rEnum at h ⊢
  simp only [mSpot_eq, kEnumOf_eq, bnd]
  split at h
  · omega
  · rename_i hc
    rw [if_neg hc, if_neg (by omega)]
theorem mVariants_neg {s : SourceD} {b : BodyD} {x : SpotD} (h : rEnum s b x < 0) : mVariants ⟨s, b⟩ x = ([], false) := by
  unfold mVariants
  unfold rEnum at h
  simp only [mSpot_eq, kEnumOf_eq, bnd]
  split at h
  · rename_i hc
    rw [if_pos (.inl hc)]
  · rw [if_pos (.inr h)]
theorem mSettable_eq (s : SourceD) (b : BodyD) (x : SpotD) : mSettable ⟨s, b⟩ x = (decide ((rType s b x).2.2 = 0) && decide ((rType s b x).1.k = 1) && !(rType s b x).2.1) := by
  unfold mSettable mIs
  simp only [mSpot_eq]

theorem eqInts_l_eq (b : SpotD) : ∀ (l : List Int) (j : Nat), eqInts_l4 b.path l j = rSameSpot_l4 b l j
  | [], _ => rfl
  | x :: l, j => by simp only [eqInts_l4, rSameSpot_l4, bnd]; rw [eqInts_l_eq b l]
theorem sameSpot_eq (a b : SpotD) : (decide (a.local_ = b.local_) && eqInts a.path b.path) = rSameSpot a b := by
  unfold eqInts rSameSpot
  rw [eqInts_l_eq]
  by_cases h1 : a.local_ = b.local_ <;> by_cases h2 : (a.path.length : Int) = b.path.length <;> simp_all
theorem mDrop_eq (s : SourceD) (b : BodyD) (x : InD) : mDrop ⟨s, b⟩ x = (((((!x.u.num) && (decide (x.u.n = 0))) && x.u.move) && (rSameSpot x.u.s x.s)) || rNoUse x.u) := by
  unfold mDrop
  rw [mNoUse_eq, ← sameSpot_eq]
  cases rNoUse x.u <;> simp [Bool.and_assoc]

theorem mOpen_neg {s : SourceD} {b : BodyD} {x : InD} (h : rEnum s b x.s < 0) : mOpen ⟨s, b⟩ x = false := by
  unfold mOpen
  rw [mVariants_neg h]
  simp
theorem mOpen_pos {s : SourceD} {b : BodyD} {x : InD} (h : 0 ≤ rEnum s b x.s) : (rNoUse x.u && mOpen ⟨s, b⟩ x) =
    (if ((((((((rEnum s b x.s) < 0) ∨ (¬ ((rNoUse x.u) = true))) ∨ (¬ (x.v.k = 0))) ∨ (¬ ((x.v.uses.length : Int) = 0))) ∨ (¬ (x.v.which = 0))) ∨ (¬ ((x.v.s.path.length : Int) = 0))) ∨ (x.v.tag < 0)) ∨ (((s.enums.getD (rEnum s b x.s).toNat default).variants.length : Int) ≤ x.v.tag) then false
      else (if ((s.enums.getD (rEnum s b x.s).toNat default).variants.getD x.v.tag.toNat default).ty.k = 0 then (decide (x.v.s.local_ = (-1))) else
        (((decide ((rResolve s ((s.enums.getD (rEnum s b x.s).toNat default).variants.getD x.v.tag.toNat default).ty).2 = 0)) && (decide ((rType s b x.v.s).2.2 = 0))) && (rSameTy ((rResolve s ((s.enums.getD (rEnum s b x.s).toNat default).variants.getD x.v.tag.toNat default).ty).1) ((rType s b x.v.s).1))))) := by
  unfold mOpen
  rw [mVariants_pos h]
  simp only [mSpot_eq, kResolve_eq, mSame_eq, bnd]
  rw [rSameTy_symm (rType s b x.v.s).1]
  by_cases h1 : rNoUse x.u = true
  · rw [h1, Bool.true_and]
    have e1 : (0 < (x.v.uses.length : Int)) = ¬ ((x.v.uses.length : Int) = 0) := by rw [eq_iff_iff]; omega
    have e2 : (0 < (x.v.s.path.length : Int)) = ¬ ((x.v.s.path.length : Int) = 0) := by rw [eq_iff_iff]; omega
    have e3 : (rEnum s b x.s < 0) = False := by rw [eq_iff_iff]; simp; exact h
    simp only [e1, e2, e3, not_true_eq_false, false_or]
  · rw [Bool.eq_false_iff.2 h1]
    simp
theorem mSet_eq (s : SourceD) (b : BodyD) (x : InD) : mSet ⟨s, b⟩ x = ((((decide ((rType s b x.s).2.2 = 0)) && (decide ((rValue s b x.v).2 = 0))) && (rSameTy ((rType s b x.s).1) ((rValue s b x.v).1))) && ((decide ((x.s.path.length : Int) = 0)) || ((decide (((rType s b x.s).1).k = 1)) && (!(rType s b x.s).2.1)))) := by
  unfold mSet mIs
  simp only [mSpot_eq, mValue_eq, mSame_eq]
theorem mIn_eq (s : SourceD) (b : BodyD) (x : InD) : mIn ⟨s, b⟩ x = rValidIn s b x := by
  unfold mIn rValidIn
  simp only [mBare_eq, mNoValue_eq, mNoUse_eq, mDrop_eq, mSet_eq, mEmpty_eq, mNumber_eq, bnd]
  split
  · rfl
  split
  · rfl
  split
  · rfl
  split
  · generalize rNoUse x.u = q
    generalize ((decide ((x.s.path.length : Int) = 0)) || ((decide (((rType s b x.s).1).k = 1)) && (!(rType s b x.s).2.1))) = w
    cases q <;> cases w <;> simp
  split
  · rfl
  split
  · rcases Int.lt_or_le (rEnum s b x.s) 0 with h | h
    · rw [mOpen_neg h, if_pos (by simp [h])]
      simp
    · exact mOpen_pos h
  · rfl

theorem ixInt_any (f : Int → Bool) : ∀ (l : List Int) (j : Nat), 0 ≤ ((ixInt_l2 f l j).run fun _ => (-1 : Int)) ↔ l.any f = true
  | [], j => by simp [ixInt_l2, Ctl.run]
  | x :: l, j => by
    rw [List.any_cons]
    by_cases h : f x = true
    · rw [show ixInt_l2 f (x :: l) j = .ret (j : Int) from if_pos h, h]; simp [Ctl.run]
    · rw [show ixInt_l2 f (x :: l) j = ixInt_l2 f l (j + 1) from if_neg h, Bool.eq_false_iff.2 h]; simpa using ixInt_any f l (j + 1)
theorem cfInt_any (l : List Int) (f : Int → Bool) : cfInt l f = l.any f := by
  unfold cfInt ixInt
  rw [Bool.eq_iff_iff, decide_eq_true_eq]
  exact ixInt_any f l 0
theorem rTm_l (s : SourceD) (b : BodyD) : ∀ (l : List Int), rValidTm_l2 b l = if l.any (mTm_1 ⟨s, b⟩) = true then .ret false else .go ()
  | [] => rfl
  | x :: l => by
    have ih := rTm_l s b l
    simp only [rValidTm_l2]
    by_cases h : x < 0 ∨ (b.blocks.length : Int) ≤ x
    · have : mTm_1 ⟨s, b⟩ x = true := by simpa [mTm_1] using h
      rw [if_pos h]
      simp [this]
    · have : mTm_1 ⟨s, b⟩ x = false := by
        rw [Bool.eq_false_iff]
        simpa [mTm_1] using h
      rw [if_neg h, ih]
      simp [this]
theorem mAsks_eq (s : SourceD) (b : BodyD) (x : TmD) : mAsks ⟨s, b⟩ x = ((((((decide ((rType s b x.v.s).2.2 = 0)) && (decide ((x.v.s.path.length : Int) = 0))) && (decide (((rType s b x.v.s).1).k = 7))) && (rNoValue (ValueD.mk x.v.k x.v.uses (SpotD.mk 0 ([])) x.v.which x.v.tag))) && (rNoUse x.u)) &&
    (decide ((rType s b x.s).2.2 = 0) && decide ((rType s b x.s).1.k = 1) && !(rType s b x.s).2.1)) := by
  unfold mAsks
  simp only [mSpot_eq, mNoValue_eq, mNoUse_eq, mSettable_eq]
theorem mTm_eq (s : SourceD) (b : BodyD) (x : TmD) : mTm ⟨s, b⟩ x = rValidTm s b x := by
  unfold mTm rValidTm
  rw [cfInt_any, rTm_l s b]
  split
  · rfl
  rw [Ctl.run_go]
  simp only [mEmpty_eq, mNoValue_eq, mNoUse_eq, mNumber_eq, mSettable_eq, mAsks_eq, bnd, ← Bool.and_assoc]
  by_cases h0 : x.k = 0
  · simp only [h0, if_true]
  by_cases h1 : x.k = 1
  · simp only [h1, if_true, if_false] <;> rfl
  by_cases h3 : x.k = 3
  · simp only [h3, if_true, if_false] <;> rfl
  by_cases h4 : x.k = 4
  · simp only [h4, if_true, if_false] <;> rfl
  by_cases h7 : x.k = 7
  · simp only [h7]
    simp <;> grind
  by_cases h5 : x.k = 5
  · simp only [h5]
    simp <;> grind
  by_cases h6 : x.k = 6
  · simp only [h6]
    simp <;> grind
  by_cases h2 : x.k = 2
  · simp only [h2]
    simp
    rcases Int.lt_or_le (rEnum s b x.s) 0 with h | h
    · rw [mVariants_neg h]
      have : ¬ 0 ≤ rEnum s b x.s := by omega
      simp [this]
    · rw [mVariants_pos h]
      simp [h]
  simp [h0, h1, h2, h3, h4, h5, h6, h7]

theorem rValid_l12 : ∀ (l : List TyD), rMirValid_l12 l = if l.any rHolds = true then .ret false else .go ()
  | [] => rfl
  | x :: l => by
    have ih := rValid_l12 l
    simp only [rMirValid_l12]
    by_cases h : rHolds x = true
    · rw [if_pos h]; simp [h]
    · rw [if_neg h, ih]; simp [h]
theorem mValid_l6_eq (s : SourceD) (b : BodyD) : ∀ (l : List LocalD), mValid_l6 s b l = rMirValid_l5 s l
  | [] => rfl
  | x :: l => by
    have e : mLocal ⟨s, b⟩ x = (decide ((rResolve s x.ty).2 = 0) && rSameTy (rResolve s x.ty).1 x.ty && !((rResolve s x.ty).1.l.any rHolds)) := by
      simp only [mLocal, kResolve_eq, mSame_eq, kHolds_eq, cfTy_any]
    simp only [mValid_l6, rMirValid_l5, e, rValid_l12, mValid_l6_eq s b l]
    generalize (rResolve s x.ty).1.l.any rHolds = q
    by_cases h1 : (rResolve s x.ty).2 = 0 <;> by_cases h2 : rSameTy (rResolve s x.ty).1 x.ty = true <;> cases q <;> simp [h1, h2, Ctl.bind]
theorem mValid_l15_eq (s : SourceD) (b : BodyD) : ∀ (l : List InD), mValid_l15 s b l = rMirValid_l20 s b l
  | [] => rfl
  | x :: l => by simp only [mValid_l15, rMirValid_l20, mIn_eq, mValid_l15_eq s b l]
theorem mValid_l12_eq (s : SourceD) (b : BodyD) : ∀ (l : List BlockD), mValid_l12 s b l = rMirValid_l17 s b l
  | [] => rfl
  | x :: l => by simp only [mValid_l12, rMirValid_l17, mValid_l15_eq, mTm_eq, mValid_l12_eq s b l]
theorem mValid_eq (s : SourceD) (b : BodyD) : mValid s b = rMirValid s b := by
  unfold mValid rMirValid mIs
  simp only [mValid_l6_eq, mValid_l12_eq, bnd, decide_eq_true_eq]
  by_cases h1 : (b.locals.length : Int) < 1
  · rw [if_pos (by simp [h1]), if_pos (by simp [h1])]
  by_cases h2 : 201 < (b.locals.length : Int)
  · rw [if_pos (by simp [h2]), if_pos (by simp [h2])]
  have e : IntKind.i64.wrap ((b.locals.length : Int) - 1) = (b.locals.length : Int) - 1 := wrap_in _ (by omega) (by omega)
  have e2 : ((b.locals.length : Int) ≤ b.params) = (IntKind.i64.wrap ((b.locals.length : Int) - 1) < b.params) := by rw [e, eq_iff_iff]; omega
  simp only [e2]
end Go.Proofs.Tryz
end
