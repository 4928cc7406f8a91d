/- The words of a source that could have been read hold no new line. -/
import Derived.Test.YtakfpmogpnoibaaGreatDoorTxtC
import Derived.Test.YtakfpmogpnoibaaGreatDoorValU
import Derived.Test.YtakfpmogpnoibaaGreatDoorRefA
import Derived.Test.YtakfpmogpnoibaaGreatDoorBldA
import Derived.Test.YtakfpmogpnoibaaGreatDoorPlaN
set_option linter.unusedVariables false
set_option linter.unusedSimpArgs false
set_option linter.constructorNameAsVariable false
section
namespace Go.Proofs.Tryz
open Go Go.AM
attribute [local simp] wpG_op wpG_nil contG_some wpG_guard guardG_v guardG_o guardG_tup gval pureOp stepG_if isPick pickG_pick pickB_b pickOK isCall step_move step_assign step_alloc step_box boxV_some step_load step_store step_binOp step_unOp step_fieldAddr faV step_indexAddr ixA_slc ixA_arr step_extract extV_tup step_nilCheck ncV_ptr ncV_rp ncV_fn ncV_mp step_build buildV step_buildSlice bsV step_index ixV_arr ixV_str step_append apB step_makeSlice msV_i step_makeFunc over step_len step_makeMap mmV step_mapUpdate step_insert muA_map muB_mp step_lookup lkA_map lkB_mp step_slice slcV_s slcV_sl slcV_ro cutB_some slObV_arr bound_none bound_some bndV_i lenB_str lenB_ro lenB_sl lenB_nil lenB_z ld_ptr ld_rp offV_ptr offV_rp idxV_ro idxV_sl unV_not unV_neg binV_int binV_str binV_eqlb binV_neqb intOp strOp St.put updL setOb St.ev toV St.lk cellsOf AM.valOf TK.agg stv fillV places TI.zero condT_true condT_false finS resL resSlot packV ren ren1 ren0 Value.cells builtinV appendV elemsOf keepT room_of wrap_in toIdx passed Function.comp_def take_len_map lenV touchOf hid tab1 tab2 tab3 tab4 tab5 tab6 tab7 tab8 tab9 tab20 tab22 tab23 tab24 tab26 tab32 tab33 tab35 tab36 tab37 tab39 tab41 tab42 tab43 tab45 tab46 tab47 tab49 tab50 tab52 tab74 tab79 tab83 tab86 tab87 tab89 tab92 tab100 tab101 tab102 tab103 tab105 tab107 tab108 tab113 tab114 tab116 tab117 tab118 tab122 tab123 tab125 tab127 tab130 tab132 tab136 tab173 tab175 tab178 tab179 tab180 tab182 tab189 tab215 tab219 tab220 tab224 tab225 tab241 tab244 tab247 tab253 tab261 tab262 tab265 tab266 armC_eq blockC_eq bodyC_eq enumC_eq fieldC_eq fnC_eq inC_eq localC_eq mirBodyC_eq operC_eq placeC_eq rvC_eq sourceC_eq spotC_eq stepC_eq stmtC_eq structC_eq tmC_eq tyC_eq useC_eq valueC_eq variantC_eq binV_eqls binV_neqs cutL_nil cutL_junk cutL_cons ren_arr ren_gone ren_unborn ren_var ren_row step_convert cvV_i cvV_sl cvV_s cvK_slc cvE_u8 bytesOf bor1 bor2 bor3 bor4
set_option linter.unusedSimpArgs false
set_option linter.unusedVariables false
set_option maxRecDepth 10000
set_option maxHeartbeats 4000000
noncomputable section
theorem textS_le (s : SourceD) (hz : bkL (sourceC s) ≤ 1050000) : (textS s).length ≤ 3150000000000 := by
 have := textS_len s hz
 omega
end
end Go.Proofs.Tryz
end
section
namespace Go.Proofs.Tryz
open Go Go.AM
set_option maxRecDepth 10000
set_option linter.unusedVariables false

theorem small_f : rSmall [102] = true := by
  unfold rSmall rUpper
  have h : rWord [102] = true := by
    unfold rWord
    rw [rName0 [102] (by decide) (by decide), if_pos (by decide), tLen_l2]
    rfl
  dsimp only [bnd]
  rw [h]
  rfl
theorem f_valid (b : List StmtD) : tValid05 (SourceD.mk ([]) ([]) ([(FnD.mk ([102] : List UInt8) ([]) b 0)] : List FnD)) = rValidBlock b 1 := by
  rw [valid05_eq, rValid05_eq]
  simp only [List.all_nil, List.all_cons, Bool.true_and, Bool.and_true, small_f]
  rw [show rValidFields [] = true from rfl, Bool.true_and]

def InN (x : UInt8) : Prop := tInner (x.toNat : Int) = true
theorem inN_10 {x : UInt8} (h : InN x) : x ≠ 10 := by
  rintro rfl
  revert h
  unfold InN
  decide +kernel

theorem len_in (s : List UInt8) (hs : s.length ≤ 24) : ∀ (m : Nat) (n : Int), 0 ≤ n → s.length - n.toNat ≤ m → tLen_l2 s tInner n = (s.length : Int) → ∀ (i : Nat) (hi : i < s.length), n ≤ i → InN s[i]
  | m, n, hn, hm, h, i, hi, hni => by
    rw [tLen_l2] at h
    dsimp only [bnd] at h
    by_cases hc : n < (s.length : Int) ∧ tInner (((s.getD n.toNat 0).toNat : Nat) : Int) = true
    · rw [if_pos hc, wrap_small (by omega) (by omega), dif_pos (by omega)] at h
      by_cases he : n = (i : Int)
      · have h2 := hc.2
        rw [he, Int.toNat_natCast, List.getD_eq_getElem?_getD, List.getElem?_eq_getElem hi] at h2
        exact h2
      · obtain ⟨m', rfl⟩ : ∃ k, m = k + 1 := ⟨m - 1, by omega⟩
        exact len_in s hs m' (n + 1) (by omega) (by omega) h i hi (by omega)
    · rw [if_neg hc] at h
      omega

theorem word_all {s : List UInt8} (h : rWord s = true) : s ≠ [] ∧ s.length ≤ 24 ∧ (∀ x ∈ s, InN x) ∧ rLetter (((s.getD 0 0).toNat : Nat) : Int) = true := by
  rw [← word_eq] at h
  have hf := word_first h
  dsimp only [tWord, bnd] at h
  simp only [Bool.and_eq_true, Bool.not_eq_true', decide_eq_false_iff_not, decide_eq_true_eq] at h
  have hl : s.length ≤ 24 := by omega
  refine ⟨h.1.1.1, hl, fun x hx => ?_, hf⟩
  obtain ⟨i, hi, rfl⟩ := List.getElem_of_mem hx
  have h2 := h.2
  unfold tLen at h2
  exact len_in s hl s.length 0 (Int.le_refl _) (by simp) h2 i hi (by omega)
theorem small_word {s : List UInt8} (h : rSmall s = true) : rWord s = true := by
  unfold rSmall at h
  simp only [Bool.and_eq_true] at h
  exact h.1.1
theorem great_word {s : List UInt8} (h : rGreat s = true) : rWord s = true := by
  unfold rGreat rUpper at h
  simp only [Bool.and_eq_true, bnd] at h
  exact h.1.1.1

def okW (s : List UInt8) : Prop := ∀ x ∈ s, x ≠ 10
instance (s : List UInt8) : Decidable (okW s) := inferInstanceAs (Decidable (∀ x ∈ s, x ≠ 10))
theorem okW_word {s : List UInt8} (h : rWord s = true) : okW s := fun x hx => inN_10 ((word_all h).2.2.1 x hx)
theorem okW_small {s : List UInt8} (h : rSmall s = true) : okW s := okW_word (small_word h)
theorem okW_great {s : List UInt8} (h : rGreat s = true) : okW s := okW_word (great_word h)
theorem okW_nil : okW [] := fun x hx => by cases hx
theorem okW_app {a b : List UInt8} (h : okW a) (h2 : okW b) : okW (a ++ b) := fun x hx => (List.mem_append.1 hx).elim (h x) (h2 x)
theorem okW_flat {l : List (List UInt8)} (h : ∀ w ∈ l, okW w) : okW l.flatten := fun x hx => by
  obtain ⟨w, hw, hx⟩ := List.mem_flatten.1 hx
  exact h w hw x hx
theorem okW_join {A : Type} {f : A → List UInt8} : ∀ {l : List A}, (∀ x ∈ l, okW (f x)) → okW (joinT f l)
  | [], _ => by simp [joinT, Lib.join_nil, okW_nil]
  | [x], h => by
    have := h x (by simp)
    simpa [joinT, Lib.join_one] using this
  | x :: y :: r, h => by
    have e : joinT f (x :: y :: r) = f x ++ [44, 32] ++ joinT f (y :: r) := by simp [joinT, Lib.join, List.intercalate]
    rw [e]
    exact okW_app (okW_app (h x (by simp)) (by decide)) (okW_join fun z hz => h z (by simp at hz ⊢; exact .inr hz))

theorem dec_digit : ∀ (n : Nat) (u : Nat), u ≤ n → ∀ x ∈ Lib.decDigits u, 48 ≤ x.toNat ∧ x.toNat ≤ 57
  | n, u, hu, x, hx => by
    rw [Lib.decDigits_eq] at hx
    obtain ⟨t, _, rfl⟩ := List.mem_map.1 hx
    unfold Lib.dg
    rw [UInt8.toNat_ofNat']
    omega
theorem okW_dig (z : Int) : okW (dig z) := by
  unfold dig
  split
  · intro x hx
    unfold Lib.itoa at hx
    split at hx
    · rcases List.mem_cons.1 hx with rfl | hx
      · decide
      · rintro rfl
        have := dec_digit _ _ (Nat.le_refl _) _ hx
        simp at this
    · rintro rfl
      have := dec_digit _ _ (Nat.le_refl _) _ hx
      simp at this
  · exact okW_nil

theorem okW_ty : ∀ (k : Nat) (t : TyD) (d : Int), SizeOf.sizeOf t < k → rValidTy_f k t d = true → okW (tyT t)
  | 0, _, _, h, _ => absurd h (Nat.not_lt_zero _)
  | k + 1, ⟨n, nm, l⟩, d, hs, h => by
    rw [rValidTy_f, rValidTy_b] at h
    dsimp only [bnd] at h
    have hnil : ∀ {a : List UInt8}, a = [] → okW a := fun h => by rw [h]; exact okW_nil
    have hdef : okW (tyT ⟨n, nm, l⟩) ∨ ∃ x, l = [x] ∧ (n = 4 ∨ n = 5 ∨ n = 6) := by
      by_cases h1 : n = 1
      · left; unfold tyT; rw [if_pos h1]; decide
      by_cases h2 : n = 2
      · left
        rw [if_neg h1, if_pos h2, Bool.and_eq_true] at h
        unfold tyT; rw [if_neg h1, if_pos (.inl h2)]; exact okW_great h.1
      by_cases h7 : n = 7
      · left
        rw [if_neg h1, if_neg h2, if_pos h7, Bool.and_eq_true] at h
        unfold tyT; rw [if_neg h1, if_neg (fun e => by dsimp only at e; omega), if_pos h7]; exact okW_app (by decide) (okW_small h.1)
      rw [if_neg h1, if_neg h2, if_neg h7] at h
      by_cases h456 : n = 4 ∨ n = 5 ∨ n = 6
      · right
        have hl : l.length = 1 := by
          by_cases h4 : n = 4
          · rw [if_pos h4] at h; simp only [Bool.and_eq_true, decide_eq_true_eq] at h; omega
          by_cases h5 : n = 5
          · rw [if_neg h4, if_pos h5] at h; simp only [Bool.and_eq_true, decide_eq_true_eq] at h; omega
          · rw [if_neg h4, if_neg h5, if_pos (by omega)] at h; simp only [Bool.and_eq_true, decide_eq_true_eq] at h; omega
        obtain ⟨x, rfl⟩ := List.length_eq_one_iff.1 hl
        exact ⟨x, rfl, h456⟩
      · rw [if_neg (by omega), if_neg (by omega), if_neg (by omega)] at h
        cases h
    rcases hdef with hdef | ⟨x, rfl, hn⟩
    · exact hdef
    rw [if_neg (by omega), if_neg (by omega), if_neg (by omega)] at h
    have hx : ∃ d', rValidTy_f k x d' = true := by
      refine ⟨IntKind.i64.wrap (d + 1), ?_⟩
      rcases hn with h4 | h4 | h4 <;> subst h4 <;> simp at h <;> exact h.2
    obtain ⟨d', hx⟩ := hx
    have := okW_ty k x d' (by simp at hs; omega) hx
    rw [tyT_one]
    rw [if_neg (by omega), if_neg (by omega), if_neg (by omega)]
    split
    · exact okW_app (by decide) this
    · split
      · exact okW_app (by decide) this
      · split
        · exact okW_app (by decide) this
        · decide
theorem okW_place {p : PlaceD} {b : Bool} (h : rValidPlace p b = true) : okW (plT p) := by
  rw [rValidPlace_eq] at h
  simp only [Bool.and_eq_true, List.all_eq_true] at h
  refine okW_app (okW_small h.1) (okW_flat fun w hw => ?_)
  obtain ⟨x, hx, rfl⟩ := List.mem_map.1 hw
  have h2 := h.2.2 x hx
  unfold tValidPlace_1 at h2
  rw [Bool.or_eq_true, decide_eq_true_eq, small_eq] at h2
  split
  · decide
  · rename_i hn
    exact okW_app (a := [46]) (by decide) (okW_small (h2.resolve_left hn))
theorem okW_oper {o : OperD} (h : rValidOper o = true) : okW (opT o) := by
  unfold opT
  unfold rValidOper at h
  split
  · exact okW_dig _
  · rename_i hn
    rw [if_neg hn, Bool.and_eq_true] at h
    exact okW_place h.2
theorem okW_opAt {l : List OperD} (h : ∀ o ∈ l, rValidOper o = true) (i : Int) (hi : 0 ≤ i) : okW (opAt l i) := by
  unfold opAt
  split
  · decide
  · have hl : i.toNat < l.length := by omega
    refine okW_oper (h _ ?_)
    rw [List.getD_eq_getElem?_getD, List.getElem?_eq_getElem hl]
    exact List.getElem_mem _
theorem okW_args {l : List OperD} (h : ∀ o ∈ l, rValidOper o = true) : okW (argT l) :=
  okW_app (okW_app (by decide) (okW_join fun o ho => okW_oper (h o ho))) (by decide)
theorem okW_rv {v : RvD} (h : rValidRv v = true) : okW (setT v) := by
  unfold rValidRv at h
  rw [run_all rValidRv_l2 rValidOper (by rw [rValidRv_l2]) (fun x xs => by rw [rValidRv_l2]; cases rValidOper x <;> simp) v.ops, Bool.and_eq_true, List.all_eq_true] at h
  obtain ⟨ho, h⟩ := h
  dsimp only [bnd] at h
  have a0 := okW_opAt ho 0 (by decide)
  have a1 := okW_opAt ho 1 (by decide)
  have a2 := okW_args ho
  unfold setT
  split
  · rename_i hs
    unfold setR
    have hs' : ¬ (v.k = 1 ∨ v.k = 2 ∨ v.k = 3 ∨ v.k = 4 ∨ v.k = 5) := by
      rintro (e | e | e | e | e) <;> rw [e] at hs <;> revert hs <;> decide
    by_cases h0 : v.k = 0
    · rw [if_pos h0]; exact a0
    by_cases h6 : v.k = 6
    · simp [h6] at h
      rw [if_neg h0, if_pos h6]; exact okW_app (by decide) (okW_place h.2)
    by_cases h7 : v.k = 7
    · simp [h7] at h
      rw [if_neg h0, if_neg h6, if_pos h7]; exact okW_app (by decide) (okW_place h.2)
    by_cases h8 : v.k = 8
    · rw [if_neg h0, if_neg h6, if_neg h7, if_pos h8]; exact okW_app (by decide) a0
    by_cases h9 : v.k = 9
    · simp [h9] at h
      rw [if_neg h0, if_neg h6, if_neg h7, if_neg h8, if_pos h9]; exact okW_app (by decide) (okW_place h.2)
    by_cases h13 : v.k = 13
    · simp [h13] at h
      rw [if_neg h0, if_neg h6, if_neg h7, if_neg h8, if_neg h9, if_pos h13]; exact okW_app (by decide) (okW_place h.2)
    by_cases h14 : v.k = 14
    · simp [h14] at h
      rw [if_neg h0, if_neg h6, if_neg h7, if_neg h8, if_neg h9, if_neg h13, if_pos h14]; exact okW_app (by decide) (okW_place h.2)
    by_cases h15 : v.k = 15
    · rw [if_neg h0, if_neg h6, if_neg h7, if_neg h8, if_neg h9, if_neg h13, if_neg h14, if_pos h15]; exact okW_app (by decide) a0
    rw [if_neg h0, if_neg h6, if_neg h7, if_neg h8, if_neg h9, if_neg h13, if_neg h14, if_neg h15]
    by_cases h10 : v.k = 10
    · simp [h10] at h
      rw [if_pos h10]; exact okW_app (okW_great h.1.1) a2
    by_cases h12 : v.k = 12
    · simp [h12] at h
      rw [if_neg h10, if_pos h12]; exact okW_app (okW_app (by decide) (okW_small h.1.1)) a2
    by_cases h11 : v.k = 11
    · simp [h11] at h
      rw [if_neg h10, if_neg h12, if_pos h11]
      refine okW_app (okW_app (okW_app (okW_great h.1.1.1) (by decide)) (okW_great h.1.1.2)) ?_
      unfold argO
      split
      · exact okW_nil
      · exact a2
    · rw [if_neg h10, if_neg h12, if_neg h11]; decide
  · refine okW_app (okW_app a0 ?_) a1
    unfold signT
    repeat' split
    all_goals decide
end Go.Proofs.Tryz
end
