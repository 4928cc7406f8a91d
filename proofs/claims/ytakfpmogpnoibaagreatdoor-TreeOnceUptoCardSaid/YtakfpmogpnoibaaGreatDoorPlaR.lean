/- The words of a source that could have been read hold no new line. -/
import Derived.Test.YtakfpmogpnoibaaGreatDoorTxtC
import Derived.Test.YtakfpmogpnoibaaGreatDoorValU
import Derived.Test.YtakfpmogpnoibaaGreatDoorRefA
import Derived.Test.YtakfpmogpnoibaaGreatDoorBldA
import Derived.Test.YtakfpmogpnoibaaGreatDoorPlaN
set_option linter.unusedVariables false
set_option linter.unusedSimpArgs false
set_option linter.constructorNameAsVariable false
section
namespace Go.Proofs.Tryz
open Go Go.AM
attribute [local simp] wpG_op wpG_nil contG_some wpG_guard guardG_v guardG_o guardG_tup gval pureOp stepG_if isPick pickG_pick pickB_b pickOK isCall step_move step_assign step_alloc step_box boxV_some step_load step_store step_binOp step_unOp step_fieldAddr faV step_indexAddr ixA_slc ixA_arr step_extract extV_tup step_nilCheck ncV_ptr ncV_rp ncV_fn ncV_mp step_build buildV step_buildSlice bsV step_index ixV_arr ixV_str step_append apB step_makeSlice msV_i step_makeFunc over step_len step_makeMap mmV step_mapUpdate step_insert muA_map muB_mp step_lookup lkA_map lkB_mp step_slice slcV_s slcV_sl slcV_ro cutB_some slObV_arr bound_none bound_some bndV_i lenB_str lenB_ro lenB_sl lenB_nil lenB_z ld_ptr ld_rp offV_ptr offV_rp idxV_ro idxV_sl unV_not unV_neg binV_int binV_str binV_eqlb binV_neqb intOp strOp St.put updL setOb St.ev toV St.lk cellsOf AM.valOf TK.agg stv fillV places TI.zero condT_true condT_false finS resL resSlot packV ren ren1 ren0 Value.cells builtinV appendV elemsOf keepT room_of wrap_in toIdx passed Function.comp_def take_len_map lenV touchOf hid tab1 tab2 tab3 tab4 tab5 tab6 tab7 tab8 tab9 tab20 tab22 tab23 tab24 tab26 tab32 tab33 tab35 tab36 tab37 tab39 tab41 tab42 tab43 tab45 tab46 tab47 tab49 tab50 tab52 tab74 tab79 tab83 tab86 tab87 tab89 tab92 tab100 tab101 tab102 tab103 tab105 tab107 tab108 tab113 tab114 tab116 tab117 tab118 tab122 tab123 tab125 tab127 tab130 tab132 tab136 tab173 tab175 tab178 tab179 tab180 tab182 tab189 tab215 tab219 tab220 tab224 tab225 tab241 tab244 tab247 tab253 tab261 tab262 tab265 tab266 armC_eq blockC_eq bodyC_eq enumC_eq fieldC_eq fnC_eq inC_eq localC_eq mirBodyC_eq operC_eq placeC_eq rvC_eq sourceC_eq spotC_eq stepC_eq stmtC_eq structC_eq tmC_eq tyC_eq useC_eq valueC_eq variantC_eq binV_eqls binV_neqs cutL_nil cutL_junk cutL_cons ren_arr ren_gone ren_unborn ren_var ren_row step_convert cvV_i cvV_sl cvV_s cvK_slc cvE_u8 bytesOf bor1 bor2 bor3 bor4
set_option linter.unusedSimpArgs false
set_option linter.unusedVariables false
set_option maxRecDepth 10000
set_option maxHeartbeats 4000000
noncomputable section
theorem textS_le (s : SourceD) (hz : bkL (sourceC s) ≤ 1050000) : (textS s).length ≤ 3150000000000 := by
 have := textS_len s hz
 omega
end
end Go.Proofs.Tryz
end
section
namespace Go.Proofs.Tryz
open Go Go.AM
set_option maxRecDepth 10000
set_option linter.unusedVariables false

def InN (x : UInt8) : Prop := tInner (x.toNat : Int) = true
theorem len_in (s : List UInt8) (hs : s.length ≤ 24) : ∀ (m : Nat) (n : Int), 0 ≤ n → s.length - n.toNat ≤ m → tLen_l2 s tInner n = (s.length : Int) → ∀ (i : Nat) (hi : i < s.length), n ≤ i → InN s[i]
  | m, n, hn, hm, h, i, hi, hni => by
    rw [tLen_l2] at h
    dsimp only [bnd] at h
    by_cases hc : n < (s.length : Int) ∧ tInner (((s.getD n.toNat 0).toNat : Nat) : Int) = true
    · rw [if_pos hc, wrap_small (by omega) (by omega), dif_pos (by omega)] at h
      by_cases he : n = (i : Int)
      · have h2 := hc.2
        rw [he, Int.toNat_natCast, List.getD_eq_getElem?_getD, List.getElem?_eq_getElem hi] at h2
        exact h2
      · obtain ⟨m', rfl⟩ : ∃ k, m = k + 1 := ⟨m - 1, by omega⟩
        exact len_in s hs m' (n + 1) (by omega) (by omega) h i hi (by omega)
    · rw [if_neg hc] at h
      omega

theorem word_all {s : List UInt8} (h : rWord s = true) : s ≠ [] ∧ s.length ≤ 24 ∧ (∀ x ∈ s, InN x) ∧ rLetter (((s.getD 0 0).toNat : Nat) : Int) = true := by
  rw [← word_eq] at h
  have hf := word_first h
  dsimp only [tWord, bnd] at h
  simp only [Bool.and_eq_true, Bool.not_eq_true', decide_eq_false_iff_not, decide_eq_true_eq] at h
  have hl : s.length ≤ 24 := by omega
  refine ⟨h.1.1.1, hl, fun x hx => ?_, hf⟩
  obtain ⟨i, hi, rfl⟩ := List.getElem_of_mem hx
  have h2 := h.2
  unfold tLen at h2
  exact len_in s hl s.length 0 (Int.le_refl _) (by simp) h2 i hi (by omega)
theorem small_word {s : List UInt8} (h : rSmall s = true) : rWord s = true := by
  unfold rSmall at h
  simp only [Bool.and_eq_true] at h
  exact h.1.1
theorem great_word {s : List UInt8} (h : rGreat s = true) : rWord s = true := by
  unfold rGreat rUpper at h
  simp only [Bool.and_eq_true, bnd] at h
  exact h.1.1.1

def okW (s : List UInt8) : Prop := ∀ x ∈ s, x ≠ 10
instance (s : List UInt8) : Decidable (okW s) := inferInstanceAs (Decidable (∀ x ∈ s, x ≠ 10))
theorem dec_digit : ∀ (n : Nat) (u : Nat), u ≤ n → ∀ x ∈ Lib.decDigits u, 48 ≤ x.toNat ∧ x.toNat ≤ 57
  | n, u, hu, x, hx => by
    rw [Lib.decDigits_eq] at hx
    obtain ⟨t, _, rfl⟩ := List.mem_map.1 hx
    unfold Lib.dg
    rw [UInt8.toNat_ofNat']
    omega
end Go.Proofs.Tryz
end
