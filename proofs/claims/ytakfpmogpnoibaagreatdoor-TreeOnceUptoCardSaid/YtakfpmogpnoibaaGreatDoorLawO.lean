/- What is valid, and has the same text, is the same; what is the same has the same text: TreeOnce, tied, where what it reads is of bulk at most 1048576. -/
import Derived.Test.YtakfpmogpnoibaaGreatDoorTie
import Derived.Test.YtakfpmogpnoibaaGreatDoorCards
import Derived.ProofKit
import Derived.OpenShut
import Derived.LaidMore
import Derived.Lay
import Derived.SevenTiedAt
import Derived.Stop.Joined
import Derived.Stop.LaidErr
import Derived.Test.YtakfpmogpnoibaaGreatDoorPlaR
import Derived.Test.YtakfpmogpnoibaaGreatDoorSamU
import Derived.Test.YtakfpmogpnoibaaGreatDoorRefA
import Derived.Test.YtakfpmogpnoibaaGreatDoorMachD
set_option linter.unusedVariables false
set_option linter.unusedSimpArgs false
set_option linter.constructorNameAsVariable false
section
namespace Go.Proofs.Tryz
open Go Go.AM
attribute [local simp] wpG_op wpG_nil contG_some wpG_guard guardG_v guardG_o guardG_tup gval pureOp stepG_if isPick pickG_pick pickB_b pickOK isCall step_move step_assign step_alloc step_box boxV_some step_load step_store step_binOp step_unOp step_fieldAddr faV step_indexAddr ixA_slc ixA_arr step_extract extV_tup step_nilCheck ncV_ptr ncV_rp ncV_fn ncV_mp step_build buildV step_buildSlice bsV step_index ixV_arr ixV_str step_append apB step_makeSlice msV_i step_makeFunc over step_len step_makeMap mmV step_mapUpdate step_insert muA_map muB_mp step_lookup lkA_map lkB_mp step_slice slcV_s slcV_sl slcV_ro cutB_some slObV_arr bound_none bound_some bndV_i lenB_str lenB_ro lenB_sl lenB_nil lenB_z ld_ptr ld_rp offV_ptr offV_rp idxV_ro idxV_sl unV_not unV_neg binV_int binV_str binV_eqlb binV_neqb intOp strOp St.put updL setOb St.ev toV St.lk cellsOf AM.valOf TK.agg stv fillV places TI.zero condT_true condT_false finS resL resSlot packV ren ren1 ren0 Value.cells builtinV appendV elemsOf keepT room_of wrap_in toIdx passed Function.comp_def take_len_map lenV touchOf hid tab1 tab2 tab3 tab4 tab5 tab6 tab7 tab8 tab9 tab20 tab22 tab23 tab24 tab26 tab32 tab33 tab35 tab36 tab37 tab39 tab41 tab42 tab43 tab45 tab46 tab47 tab49 tab50 tab52 tab74 tab79 tab83 tab86 tab87 tab89 tab92 tab100 tab101 tab102 tab103 tab105 tab107 tab108 tab113 tab114 tab116 tab117 tab118 tab122 tab123 tab125 tab127 tab130 tab132 tab136 tab173 tab175 tab178 tab179 tab180 tab182 tab189 tab215 tab219 tab220 tab224 tab225 tab241 tab244 tab247 tab253 tab261 tab262 tab265 tab266 armC_eq blockC_eq bodyC_eq enumC_eq fieldC_eq fnC_eq inC_eq localC_eq mirBodyC_eq operC_eq placeC_eq rvC_eq sourceC_eq spotC_eq stepC_eq stmtC_eq structC_eq tmC_eq tyC_eq useC_eq valueC_eq variantC_eq binV_eqls binV_neqs cutL_nil cutL_junk cutL_cons ren_arr ren_gone ren_unborn ren_var ren_row step_convert cvV_i cvV_sl cvV_s cvK_slc cvE_u8 bytesOf bor1 bor2 bor3 bor4
set_option linter.unusedSimpArgs false
set_option linter.unusedVariables false
set_option maxRecDepth 10000
set_option maxHeartbeats 40000000
noncomputable section

def lTreeOnce (p0 : SourceD) (p1 : SourceD) : Bool :=
  (if ((zLarge p0 400) = true) ∨ ((zLarge p1 400) = true) then true else (if ((tSame p0 p1) = true) ∧ (¬ ((textS p0) = (textS p1))) then false else ((((!(decide ((textS p0) = (textS p1)))) || (tSame p0 p1)) || (!(tValid05 p0))) || (!(tValid05 p1)))))
theorem w_lTreeOnce (p0 : SourceD) (p1 : SourceD) (hw : wfL (sourceC p0)) (hz : bkL (sourceC p0) ≤ 1050000) (hu : wfL (sourceC p1)) (hy : bkL (sourceC p1) ≤ 1050000) : QC prog 4 [.agg [.ro 4 (p0.structs.map structC), .ro 3 (p0.enums.map enumC), .ro 4 (p0.fns.map fnC)], .agg [.ro 4 (p1.structs.map structC), .ro 3 (p1.enums.map enumC), .ro 4 (p1.fns.map fnC)]] [] (.b (lTreeOnce p0 p1)) [] := by
  refine QC.of_body tabOK func4 rfl (by kernel_rfl) ?_
  simp only [f4]
  generalize e : lTreeOnce p0 p1 = R
  unfold lTreeOnce at e
  refine EV.seq ?_
  refine RG ?_ -- region 0
  simp -implicitDefEqProofs
  refine EV.seq ?_
  refine RG ?_ -- region 1
  simp -implicitDefEqProofs
  refine callG_fun (w_works05) ?_ ?_
  · simp
  simp -implicitDefEqProofs
  refine EV.seq ?_
  refine EV.seq ?_
  refine RG ?_ -- region 2
  simp -implicitDefEqProofs
  refine EV.condT ?_
  simp -implicitDefEqProofs
  refine EV.skip ?_
  simp only [KN1, KN2, KN3]
  refine EV.seq ?_
  refine RG ?_ -- region 4
  simp -implicitDefEqProofs
  refine callG_fun (w_zLarge p0 400) ?_ ?_
  · simp
  simp -implicitDefEqProofs
  refine EV.seq ?_
  refine RG ?_ -- region 5
  simp -implicitDefEqProofs
  refine callG_fun (w_zLarge p1 400) ?_ ?_
  · simp
  simp -implicitDefEqProofs
  refine EV.seq ?_
  refine EV.seq ?_
  refine EV.nrm (fun _ : Unit => (⟨[.junk, .junk, .ptr 0 0 0 0, .ptr 1 0 0 0, .junk, .b true, .junk, .junk, .junk, .junk, .junk, .junk, .junk, .junk, .junk, .junk, .junk, .junk, .junk, .junk, .b ((zLarge p0 400) || (zLarge p1 400)), .junk, .junk, .junk, .junk, .junk, .junk, .junk, .junk, .junk, .junk, .junk, .junk, .junk, .junk, .junk, .junk, .junk, .junk, .junk, .junk, .junk, .junk, .junk, .junk, .junk, .junk, .junk, .junk, .junk, .junk, .junk, .junk], [.arr 0 3 [[.ro 4 (p0.structs.map structC), .ro 3 (p0.enums.map enumC), .ro 4 (p0.fns.map fnC)]], .arr 0 3 [[.ro 4 (p1.structs.map structC), .ro 3 (p1.enums.map enumC), .ro 4 (p1.fns.map fnC)]]]⟩ : St)) ?_ ?_
  · skip
    cases k2 : (zLarge p0 400)
    · skip
      have kk2 := k2
      try simp at kk2
      refine RG ?_ -- region 6
      simp -implicitDefEqProofs +contextual [k2, kk2]
      refine ⟨(), ?_⟩
      try dsimp only
      refine Sub.cutF 2 (by simp) ?_ ?_ <;> simp [List.range_succ, toIdx_range, passed, k2, kk2]
    · skip
      have kk2 := k2
      try simp at kk2
      refine RG ?_ -- region 6
      simp -implicitDefEqProofs +contextual [k2, kk2]
      refine ⟨(), ?_⟩
      try dsimp only
      refine Sub.cutF 2 (by simp) ?_ ?_ <;> simp [List.range_succ, toIdx_range, passed, k2, kk2]
  · skip
    rintro _
    simp only [KN1, KN2, KN3, KN4]
    refine EV.condT ?_
    simp -implicitDefEqProofs
    refine condT_intro (fun k3 => ?_) (fun k3 => ?_)
    · try simp at k3
      obtain ⟨f3, e⟩ := PO e k3
      try simp at f3
      refine EV.seq ?_
      refine RG ?_ -- region 7
      simp -implicitDefEqProofs
      refine EV.ret ?_
      simp only [KR1, KR2, KR3, KR4]
      subst e
      refine Fin.pure0 ?_
      first | (simp; done) | (simp <;> grind)
    · try simp at k3
      obtain ⟨f3, e⟩ := NO e k3
      try simp at f3
      refine EV.skip ?_
      simp only [KN1, KN2, KN3]
      refine EV.seq ?_
      have := textS_le p0 (by first | exact hz | exact hy)
      have := textS_le p1 (by first | exact hz | exact hy)
      refine EV.drawG tabOK mixedOK ?_ -- region 8
      simp -implicitDefEqProofs
      refine callG_fun (w_tText p0 (by first | exact hw | exact hu) (by first | exact hz | exact hy)) ?_ ?_
      · simp
      simp -implicitDefEqProofs
      refine callG_fun (w_tText p1 (by first | exact hw | exact hu) (by first | exact hz | exact hy)) ?_ ?_
      · simp
      simp -implicitDefEqProofs
      refine And.intro ?_ ?_
      · first | decide +kernel | (simp -implicitDefEqProofs; decide +kernel) | (split <;> decide +kernel)
      try simp -implicitDefEqProofs
      refine EV.seq ?_
      refine RG ?_ -- region 9
      simp -implicitDefEqProofs
      refine callG_fun (w_tSame p0 p1) ?_ ?_
      · simp
      simp -implicitDefEqProofs
      refine EV.seq ?_
      refine EV.seq ?_
      refine EV.nrm (fun _ : Unit => (⟨[.junk, .junk, .ptr 0 0 0 0, .ptr 1 0 0 0, .junk, .b true, .junk, .junk, .b (decide ((textS p0) = (textS p1))), .b (tSame p0 p1), .junk, .junk, .junk, .junk, .junk, .junk, .junk, .junk, .junk, .junk, .junk, .junk, .junk, .junk, .junk, .junk, .junk, .junk, .junk, .junk, .junk, .junk, .junk, .junk, .b ((tSame p0 p1) && (!(decide ((textS p0) = (textS p1))))), .junk, .junk, .junk, .junk, .junk, .junk, .junk, .junk, .junk, .junk, .junk, .junk, .junk, .junk, .junk, .junk, .junk, .junk], [.arr 0 3 [[.ro 4 (p0.structs.map structC), .ro 3 (p0.enums.map enumC), .ro 4 (p0.fns.map fnC)]], .arr 0 3 [[.ro 4 (p1.structs.map structC), .ro 3 (p1.enums.map enumC), .ro 4 (p1.fns.map fnC)]]]⟩ : St)) ?_ ?_
      · skip
        cases k5 : (tSame p0 p1)
        · skip
          have kk5 := k5
          try simp at kk5
          refine RG ?_ -- region 10
          simp -implicitDefEqProofs +contextual [k5, kk5]
          refine ⟨(), ?_⟩
          try dsimp only
          refine Sub.cutF 2 (by simp) ?_ ?_ <;> simp [List.range_succ, toIdx_range, passed, k5, kk5]
        · skip
          have kk5 := k5
          try simp at kk5
          refine RG ?_ -- region 10
          simp -implicitDefEqProofs +contextual [k5, kk5]
          refine ⟨(), ?_⟩
          try dsimp only
          refine Sub.cutF 2 (by simp) ?_ ?_ <;> simp [List.range_succ, toIdx_range, passed, k5, kk5]
      · skip
        rintro _
        simp only [KN1, KN2, KN3, KN4]
        refine EV.condT ?_
        simp -implicitDefEqProofs
        refine condT_intro (fun k6 => ?_) (fun k6 => ?_)
        · try simp at k6
          obtain ⟨f6, e⟩ := PO e k6
          try simp at f6
          refine EV.seq ?_
          refine RG ?_ -- region 11
          simp -implicitDefEqProofs
          refine EV.ret ?_
          simp only [KR1, KR2, KR3, KR4]
          subst e
          refine Fin.pure0 ?_
          first | (simp; done) | (simp <;> grind)
        · try simp at k6
          obtain ⟨f6, e⟩ := NO e k6
          try simp at f6
          refine EV.skip ?_
          simp only [KN1, KN2, KN3]
          refine EV.seq ?_
          refine EV.nrm (fun _ : Unit => (⟨[.junk, .junk, .junk, .junk, .b ((((!(decide ((textS p0) = (textS p1)))) || (tSame p0 p1)) || (!(tValid05 p0))) || (!(tValid05 p1))), .junk, .junk, .junk, .junk, .junk, .junk, .junk, .junk, .junk, .junk, .junk, .junk, .junk, .junk, .junk, .junk, .junk, .junk, .junk, .junk, .junk, .junk, .junk, .junk, .junk, .junk, .junk, .junk, .junk, .junk, .junk, .junk, .junk, .junk, .junk, .junk, .junk, .junk, .junk, .junk, .junk, .junk, .junk, .junk, .junk, .junk, .junk, .junk], []⟩ : St)) ?_ ?_
          · skip
            by_cases k8 : (textS p0) = (textS p1)
            · skip
              have kk8 := k8
              try simp at kk8
              cases k9 : (tSame p0 p1)
              · skip
                have kk9 := k9
                try simp at kk9
                cases k10 : (tValid05 p0)
                · skip
                  have kk10 := k10
                  try simp at kk10
                  refine RG ?_ -- region 12
                  simp -implicitDefEqProofs +contextual [k8, kk8, k9, kk9, k10, kk10]
                  refine callG_fun (w_tValid05 p0) ?_ ?_
                  · first | (simp; done) | (simp [k8, kk8, k9, kk9, k10, kk10]; done)
                  simp -implicitDefEqProofs +contextual [k8, kk8, k9, kk9, k10, kk10]
                  refine ⟨(), ?_⟩
                  try dsimp only
                  refine Sub.cutF 0 (by simp) ?_ ?_ <;> simp [List.range_succ, toIdx_range, passed, k8, kk8, k9, kk9, k10, kk10]
                · skip
                  have kk10 := k10
                  try simp at kk10
                  refine RG ?_ -- region 12
                  simp -implicitDefEqProofs +contextual [k8, kk8, k9, kk9, k10, kk10]
                  refine callG_fun (w_tValid05 p0) ?_ ?_
                  · first | (simp; done) | (simp [k8, kk8, k9, kk9, k10, kk10]; done)
                  simp -implicitDefEqProofs +contextual [k8, kk8, k9, kk9, k10, kk10]
                  refine callG_fun (w_tValid05 p1) ?_ ?_
                  · first | (simp; done) | (simp [k8, kk8, k9, kk9, k10, kk10]; done)
                  simp -implicitDefEqProofs +contextual [k8, kk8, k9, kk9, k10, kk10]
                  refine ⟨(), ?_⟩
                  try dsimp only
                  refine Sub.cutF 0 (by simp) ?_ ?_ <;> simp [List.range_succ, toIdx_range, passed, k8, kk8, k9, kk9, k10, kk10]
              · skip
                have kk9 := k9
                try simp at kk9
                refine RG ?_ -- region 12
                simp -implicitDefEqProofs +contextual [k8, kk8, k9, kk9]
                refine ⟨(), ?_⟩
                try dsimp only
                refine Sub.cutF 0 (by simp) ?_ ?_ <;> simp [List.range_succ, toIdx_range, passed, k8, kk8, k9, kk9]
            · skip
              have kk8 := k8
              try simp at kk8
              refine RG ?_ -- region 12
              simp -implicitDefEqProofs +contextual [k8, kk8]
              refine ⟨(), ?_⟩
              try dsimp only
              refine Sub.cutF 0 (by simp) ?_ ?_ <;> simp [List.range_succ, toIdx_range, passed, k8, kk8]
          · skip
            rintro _
            simp only [KN1, KN2, KN3, KN4]
            refine EV.ret ?_
            simp only [KR1, KR2, KR3, KR4]
            subst e
            refine Fin.pure0 ?_
            first | (simp; done) | (simp <;> grind)
end
end Go.Proofs.Tryz
end
section
namespace Go.Proofs.Tryz
open Go Go.AM
set_option maxRecDepth 10000
set_option linter.unusedVariables false

def Fo (p : UInt8 → Bool) (r : List UInt8) : Prop := ∀ x, r.head? = some x → p x = false
theorem Fo.cons {p : UInt8 → Bool} {x : UInt8} {r : List UInt8} (h : p x = false) : Fo p (x :: r) := fun y hy => by cases hy; exact h
theorem Fo.nil {p : UInt8 → Bool} : Fo p [] := fun y hy => by cases hy
theorem Fo.mono {p q : UInt8 → Bool} {r : List UInt8} (h : Fo p r) (hq : ∀ x, q x = true → p x = true) : Fo q r := fun x hx => by
  cases hc : q x with
  | false => rfl
  | true => have := h x hx; rw [hq x hc] at this; cases this
theorem word_inj {p : UInt8 → Bool} : ∀ {w w' r r' : List UInt8}, (∀ x ∈ w, p x = true) → (∀ x ∈ w', p x = true) → Fo p r → Fo p r' → w ++ r = w' ++ r' → w = w' ∧ r = r'
  | [], [], _, _, _, _, _, _, e => ⟨rfl, e⟩
  | [], y :: w', r, r', _, h', hr, _, e => by
    have := hr y (by rw [show r = y :: w' ++ r' from e]; rfl)
    rw [h' y (by simp)] at this; cases this
  | x :: w, [], r, r', h, _, _, hr', e => by
    have := hr' x (by rw [show r' = x :: w ++ r from e.symm]; rfl)
    rw [h x (by simp)] at this; cases this
  | x :: w, y :: w', r, r', h, h', hr, hr', e => by
    simp only [List.cons_append, List.cons.injEq] at e
    obtain ⟨e1, e2⟩ := word_inj (fun z hz => h z (by simp [hz])) (fun z hz => h' z (by simp [hz])) hr hr' e.2
    exact ⟨by rw [e.1, e1], e2⟩

def isN (x : UInt8) : Bool := tInner (x.toNat : Int)
def isO (x : UInt8) : Bool := isN x || x == 46 || x == 42 || x == 45
theorem isN_O {x : UInt8} (h : isN x = true) : isO x = true := by unfold isO; rw [h]; rfl
theorem Fo.ofO {r : List UInt8} (h : Fo isO r) : Fo isN r := h.mono fun _ => isN_O
theorem word_N {s : List UInt8} (h : rWord s = true) : ∀ x ∈ s, isN x = true := (word_all h).2.2.1

def wd (s : List UInt8) : List UInt8 := s.takeWhile isN
theorem wd_app : ∀ {w r : List UInt8}, (∀ x ∈ w, isN x = true) → Fo isN r → wd (w ++ r) = w
  | [], [], _, _ => rfl
  | [], y :: r, _, h => by
    have := h y rfl
    simp [wd, this]
  | x :: w, r, h, hr => by
    have h2 := wd_app (w := w) (r := r) (fun z hz => h z (List.mem_cons_of_mem _ hz)) hr
    have h3 := h x List.mem_cons_self
    simp only [wd, List.cons_append, List.takeWhile, h3] at h2 ⊢
    rw [h2]

def kwds : List (List UInt8) := [[108, 101, 116], [105, 102], [119, 104, 105, 108, 101], [109, 97, 116, 99, 104], [121, 105, 101, 108, 100], [114, 101, 116, 117, 114, 110], [112, 114, 105, 110, 116], [100, 114, 111, 112], [98, 111, 120], [117, 110, 98, 111, 120], [115, 116, 97, 114, 116], [97, 119, 97, 105, 116], [112, 111, 108, 108], [119, 97, 105, 116], [109, 117, 116], [105, 110, 116], [115, 116, 114, 117, 99, 116], [101, 110, 117, 109], [99, 111], [101, 108, 115, 101]]
theorem kw_res : ∀ s ∈ kwds, tReserved s = true := by decide +kernel
theorem small_kw {s : List UInt8} (h : rSmall s = true) : s ∉ kwds := fun hc => by
  have := kw_res s hc
  rw [res_eq] at this
  unfold rSmall at h
  rw [this] at h
  simp at h
def upF (s : List UInt8) : Bool := decide (65 ≤ (s.getD 0 0).toNat ∧ (s.getD 0 0).toNat ≤ 90)
theorem great_up {s : List UInt8} (h : rGreat s = true) : upF s = true := by
  unfold rGreat rUpper at h
  simp only [Bool.and_eq_true, bnd, decide_eq_true_eq] at h
  unfold upF
  rw [decide_eq_true_eq]
  have h1 := h.1.1.2
  have h2 := h.1.2
  omega
theorem small_up {s : List UInt8} (h : rSmall s = true) : upF s = false := by
  unfold rSmall at h
  simp only [Bool.and_eq_true, Bool.not_eq_true'] at h
  obtain ⟨⟨h1, h2⟩, _⟩ := h
  unfold upF
  rw [decide_eq_false_iff_not]
  intro hc
  unfold rUpper at h2
  rw [h1] at h2
  simp only [bnd, Bool.true_and, Bool.and_eq_false_iff, decide_eq_false_iff_not] at h2
  omega
theorem great_kw {s : List UInt8} (h : rGreat s = true) : s ∉ kwds := fun hc => by
  have := great_up h
  have h2 : ∀ s ∈ kwds, upF s = false := by decide +kernel
  rw [h2 s hc] at this
  cases this
theorem word_ne {s : List UInt8} (h : rWord s = true) : s ≠ [] := (word_all h).1
def letF (s : List UInt8) : Bool := rLetter (((s.getD 0 0).toNat : Nat) : Int)
theorem word_let {s : List UInt8} (h : rWord s = true) : letF s = true := (word_all h).2.2.2

theorem isN_digit {x : UInt8} (h : 48 ≤ x.toNat ∧ x.toNat ≤ 57) : isN x = true := by
  have : ∀ n : Fin 256, 48 ≤ n.val ∧ n.val ≤ 57 → tInner ((n.val : Nat) : Int) = true := by decide +kernel
  exact this ⟨x.toNat, x.toNat_lt⟩ h
def valD (l : List UInt8) : Nat := l.foldl (fun a x => 10 * a + (x.toNat - 48)) 0
theorem val_snoc (l : List UInt8) (x : UInt8) : valD (l ++ [x]) = 10 * valD l + (x.toNat - 48) := by simp [valD]
theorem val_dec : ∀ (n u : Nat), u ≤ n → valD (Lib.decDigits u) = u
  | n, u, h => by
    rw [Lib.decDigits]
    split
    · rename_i h1
      have : (UInt8.ofNat (48 + u)).toNat = 48 + u := by rw [UInt8.toNat_ofNat']; omega
      simp only [valD, List.foldl_cons, List.foldl_nil, this]; omega
    · rename_i h1
      obtain ⟨m, rfl⟩ : ∃ m, n = m + 1 := ⟨n - 1, by omega⟩
      have := val_dec m (u / 10) (by omega)
      have h2 : (UInt8.ofNat (48 + u % 10)).toNat = 48 + u % 10 := by rw [UInt8.toNat_ofNat']; omega
      rw [val_snoc, this, h2]
      omega
theorem dec_inj {u v : Nat} (h : Lib.decDigits u = Lib.decDigits v) : u = v := by rw [← val_dec u u (Nat.le_refl _), ← val_dec v v (Nat.le_refl _), h]
theorem dec_ne (u : Nat) : ∃ x l, Lib.decDigits u = x :: l ∧ 48 ≤ x.toNat ∧ x.toNat ≤ 57 := by
  have h1 := Lib.decDigits_length u
  have h2 := Lib.nDigits_pos u
  cases h : Lib.decDigits u with
  | nil => rw [h] at h1; simp at h1; omega
  | cons x l => exact ⟨x, l, rfl, dec_digit u u (Nat.le_refl _) x (by rw [h]; simp)⟩
theorem dig_form {z : Int} (h : inI64 z) : (0 ≤ z ∧ dig z = Lib.decDigits z.toNat) ∨ (z < 0 ∧ dig z = 45 :: Lib.decDigits z.natAbs) := by
  rw [dig_eq h]
  unfold Lib.itoa
  by_cases hz : z < 0
  · right; rw [if_pos hz]; exact ⟨hz, rfl⟩
  · left; rw [if_neg hz]; exact ⟨by omega, rfl⟩
theorem dig_inj {z y : Int} (hz : inI64 z) (hy : inI64 y) (h : dig z = dig y) : z = y := by
  obtain ⟨a, la, ea, ha⟩ := dec_ne z.toNat
  obtain ⟨b, lb, eb, hb⟩ := dec_ne y.toNat
  rcases dig_form hz with ⟨h1, e1⟩ | ⟨h1, e1⟩ <;> rcases dig_form hy with ⟨h2, e2⟩ | ⟨h2, e2⟩ <;> rw [e1, e2] at h
  · have := dec_inj h; omega
  · rw [ea] at h
    have : a = 45 := (List.cons.inj h).1
    subst this; simp at ha
  · rw [eb] at h
    have : b = 45 := (List.cons.inj h).1.symm
    subst this; simp at hb
  · have := dec_inj (List.cons.inj h).2; omega
theorem dig_O {z : Int} (hz : inI64 z) : ∀ x ∈ dig z, isO x = true := by
  intro x hx
  rcases dig_form hz with ⟨h1, e1⟩ | ⟨h1, e1⟩ <;> rw [e1] at hx
  · exact isN_O (isN_digit (dec_digit _ _ (Nat.le_refl _) x hx))
  · rcases List.mem_cons.1 hx with rfl | hx
    · rfl
    · exact isN_O (isN_digit (dec_digit _ _ (Nat.le_refl _) x hx))

def stpT (x : StepD) : List UInt8 := if x.field = [] then [46, 42] else 46 :: x.field
theorem plT_eq (p : PlaceD) : plT p = p.name ++ (p.path.map stpT).flatten := rfl
def okStep (x : StepD) : Prop := x.field = [] ∨ rSmall x.field = true
theorem place_ok {p : PlaceD} {b : Bool} (h : rValidPlace p b = true) : rSmall p.name = true ∧ (b = true → p.path = []) ∧ ∀ x ∈ p.path, okStep x := by
  rw [rValidPlace_eq] at h
  simp only [Bool.and_eq_true, List.all_eq_true, Bool.not_eq_true', Bool.and_eq_false_iff, decide_eq_false_iff_not, Classical.not_not] at h
  refine ⟨h.1, fun hb => ?_, fun x hx => ?_⟩
  · rcases h.2.1 with h1 | h1
    · rw [hb] at h1; cases h1
    · exact h1
  · have h2 := h.2.2 x hx
    unfold tValidPlace_1 at h2
    rwa [Bool.or_eq_true, decide_eq_true_eq, small_eq] at h2
def segT (x : StepD) : List UInt8 := if x.field = [] then [42] else x.field
theorem stp_seg (x : StepD) : stpT x = 46 :: segT x := by unfold stpT segT; split <;> rfl
def isS (x : UInt8) : Bool := isN x || x == 42
theorem seg_S {x : StepD} (h : okStep x) : ∀ y ∈ segT x, isS y = true := by
  unfold segT
  split
  · simp [isS]
  · rename_i hn
    intro y hy
    unfold isS
    rw [word_N (small_word (h.resolve_left hn)) y hy]; rfl
theorem seg_inj {x y : StepD} (hx : okStep x) (hy : okStep y) (h : segT x = segT y) : x = y := by
  rw [step_iff]
  unfold segT at h
  have key : ∀ {f : List UInt8}, (f = [] ∨ rSmall f = true) → f = [42] → False := fun hf e => by
    subst e
    rcases hf with h | h
    · cases h
    · have := word_N (small_word h) 42 (by simp)
      revert this; decide +kernel
  split at h <;> split at h
  · rename_i a b; rw [a, b]
  · exact absurd h.symm (fun e => key hy e)
  · exact absurd h (fun e => key hx e)
  · exact h
theorem path_Fo (l : List StepD) : Fo isS (l.map stpT).flatten := by
  cases l with
  | nil => exact Fo.nil
  | cons x l => rw [List.map_cons, List.flatten_cons, stp_seg]; exact Fo.cons (by decide +kernel)
theorem path_inj : ∀ {l l' : List StepD}, (∀ x ∈ l, okStep x) → (∀ x ∈ l', okStep x) → (l.map stpT).flatten = (l'.map stpT).flatten → l = l'
  | [], [], _, _, _ => rfl
  | [], y :: l', _, _, h => by simp [stp_seg] at h
  | x :: l, [], _, _, h => by simp [stp_seg] at h
  | x :: l, y :: l', h1, h2, h => by
    simp only [List.map_cons, List.flatten_cons, stp_seg, List.cons_append, List.cons.injEq, true_and] at h
    obtain ⟨e1, e2⟩ := word_inj (seg_S (h1 x (by simp))) (seg_S (h2 y (by simp))) (path_Fo l) (path_Fo l') h
    rw [seg_inj (h1 x (by simp)) (h2 y (by simp)) e1, path_inj (fun z hz => h1 z (by simp [hz])) (fun z hz => h2 z (by simp [hz])) e2]
theorem isN_S {x : UInt8} (h : isN x = true) : isS x = true := by unfold isS; rw [h]; rfl
theorem path_N (l : List StepD) : Fo isN (l.map stpT).flatten := (path_Fo l).mono fun _ => isN_S
theorem plT_inj {p q : PlaceD} {b c : Bool} (hp : rValidPlace p b = true) (hq : rValidPlace q c = true) (h : plT p = plT q) : p = q := by
  obtain ⟨p1, _, p2⟩ := place_ok hp
  obtain ⟨q1, _, q2⟩ := place_ok hq
  rw [plT_eq, plT_eq] at h
  obtain ⟨e1, e2⟩ := word_inj (word_N (small_word p1)) (word_N (small_word q1)) (path_N _) (path_N _) h
  rw [place_iff]
  exact ⟨e1, path_inj p2 q2 e2⟩
theorem plT_O {p : PlaceD} {b : Bool} (hp : rValidPlace p b = true) : ∀ x ∈ plT p, isO x = true := by
  obtain ⟨p1, _, p2⟩ := place_ok hp
  intro x hx
  rcases List.mem_append.1 hx with hx | hx
  · exact isN_O (word_N (small_word p1) x hx)
  · obtain ⟨w, hw, hx⟩ := List.mem_flatten.1 hx
    obtain ⟨y, hy, rfl⟩ := List.mem_map.1 hw
    change x ∈ stpT y at hx
    rw [stp_seg] at hx
    rcases List.mem_cons.1 hx with rfl | hx
    · rfl
    · have := seg_S (p2 y hy) x hx
      unfold isS at this
      unfold isO
      rw [Bool.or_eq_true] at this
      rcases this with h | h
      · rw [h]; rfl
      · rw [h]; simp
theorem plT_wd {p : PlaceD} {b : Bool} (hp : rValidPlace p b = true) {r : List UInt8} (hr : Fo isN r) : wd (plT p ++ r) = p.name := by
  obtain ⟨p1, _, _⟩ := place_ok hp
  rw [plT_eq, List.append_assoc]
  refine wd_app (word_N (small_word p1)) ?_
  cases hl : p.path with
  | nil => exact hr
  | cons x l => rw [List.map_cons, List.flatten_cons, stp_seg]; exact Fo.cons (by decide +kernel)

def okOp (o : OperD) : Prop := (o.num = true ∧ inI64 o.n ∧ o.p = ⟨[], []⟩) ∨ (o.num = false ∧ o.n = 0 ∧ rValidPlace o.p false = true)
theorem oper_ok {o : OperD} (h : rValidOper o = true) (hw : inI64 o.n) : okOp o := by
  unfold rValidOper at h
  split at h
  · rename_i hn
    rw [Bool.and_eq_true, noPlace_iff] at h
    exact .inl ⟨hn, hw, h.1⟩
  · rename_i hn
    rw [Bool.and_eq_true, decide_eq_true_eq] at h
    exact .inr ⟨by simpa using hn, h.1, h.2⟩
theorem opT_O {o : OperD} (h : okOp o) : ∀ x ∈ opT o, isO x = true := by
  unfold opT
  rcases h with ⟨h1, h2, _⟩ | ⟨h1, _, h2⟩
  · rw [if_pos h1]; exact dig_O h2
  · rw [if_neg (by simp [h1])]; exact plT_O h2
theorem opT_wd {o : OperD} (h : okOp o) {r : List UInt8} (hr : Fo isN r) : (wd (opT o ++ r) ∉ kwds ∧ upF (wd (opT o ++ r)) = false) ∧ ((wd (opT o ++ r) = [] ∧ (opT o ++ r).head? = some 45 ∧ letF (wd (opT o ++ r)) = false) ∨ wd (opT o ++ r) ≠ []) := by
  unfold opT
  rcases h with ⟨h1, h2, _⟩ | ⟨h1, _, h2⟩
  · rw [if_pos h1]
    rcases dig_form h2 with ⟨g1, g2⟩ | ⟨g1, g2⟩
    · rw [g2, wd_app (fun x hx => isN_digit (dec_digit _ _ (Nat.le_refl _) x hx)) hr]
      obtain ⟨x, l, e, hx⟩ := dec_ne o.n.toNat
      rw [e]
      have hk : ∀ s ∈ kwds, 97 ≤ (s.getD 0 0).toNat := by decide +kernel
      refine ⟨⟨fun hc => ?_, ?_⟩, .inr (by simp)⟩
      · have := hk _ hc; simp at this; omega
      · unfold upF; rw [decide_eq_false_iff_not]; simp; omega
    · rw [g2]
      have : wd (45 :: Lib.decDigits o.n.natAbs ++ r) = [] := by
        rw [show (45 :: Lib.decDigits o.n.natAbs ++ r : List UInt8) = [] ++ (45 :: Lib.decDigits o.n.natAbs ++ r) from rfl]
        exact wd_app (fun x hx => by cases hx) (Fo.cons (by decide +kernel))
      rw [this]
      exact ⟨⟨by decide +kernel, by decide +kernel⟩, .inl ⟨rfl, rfl, by decide +kernel⟩⟩
  · rw [if_neg (by simp [h1]), plT_wd h2 hr]
    have hs := (place_ok h2).1
    exact ⟨⟨small_kw hs, small_up hs⟩, .inr (word_ne (small_word hs))⟩
theorem dig_let {z : Int} (hz : inI64 z) : letF (wd (dig z)) = false := by
  rcases dig_form hz with ⟨h1, e1⟩ | ⟨h1, e1⟩ <;> rw [e1]
  · obtain ⟨x, l, e, hx⟩ := dec_ne z.toNat
    have := wd_app (w := Lib.decDigits z.toNat) (r := []) (fun x hx => isN_digit (dec_digit _ _ (Nat.le_refl _) x hx)) Fo.nil
    rw [List.append_nil] at this
    rw [this, e]
    unfold letF
    have h2 : ∀ n : Fin 256, 48 ≤ n.val ∧ n.val ≤ 57 → rLetter ((n.val : Nat) : Int) = false := by decide +kernel
    exact h2 ⟨x.toNat, x.toNat_lt⟩ hx
  · have : wd (45 :: Lib.decDigits z.natAbs) = [] := by
      rw [show (45 :: Lib.decDigits z.natAbs : List UInt8) = [] ++ (45 :: Lib.decDigits z.natAbs) from rfl]
      exact wd_app (fun x hx => by cases hx) (Fo.cons (by decide +kernel))
    rw [this]; decide +kernel
theorem opT_inj {o q : OperD} (ho : okOp o) (hq : okOp q) {r r' : List UInt8} (hr : Fo isO r) (hr' : Fo isO r') (h : opT o ++ r = opT q ++ r') : o = q ∧ r = r' := by
  obtain ⟨e, er⟩ := word_inj (opT_O ho) (opT_O hq) hr hr' h
  refine ⟨?_, er⟩
  rw [oper_iff]
  unfold opT at e
  have key : ∀ {p : PlaceD} {z : Int}, rValidPlace p false = true → inI64 z → plT p = dig z → False := fun hp hz he => by
    have h1 := dig_let hz
    rw [← he] at h1
    have h2 := plT_wd hp (r := []) Fo.nil
    rw [List.append_nil] at h2
    rw [h2, word_let (small_word (place_ok hp).1)] at h1
    cases h1
  rcases ho with ⟨h1, h2, h3⟩ | ⟨h1, h2, h3⟩ <;> rcases hq with ⟨g1, g2, g3⟩ | ⟨g1, g2, g3⟩
  · rw [if_pos h1, if_pos g1] at e
    exact ⟨by rw [h1, g1], dig_inj h2 g2 e, by rw [h3, g3]⟩
  · rw [if_pos h1, if_neg (by simp [g1])] at e
    exact (key g3 h2 e.symm).elim
  · rw [if_neg (by simp [h1]), if_pos g1] at e
    exact (key h3 g2 e).elim
  · rw [if_neg (by simp [h1]), if_neg (by simp [g1])] at e
    exact ⟨by rw [h1, g1], by rw [h2, g2], plT_inj h3 g3 e⟩
end Go.Proofs.Tryz
end
section
namespace Go.Proofs.Tryz
open Go Go.AM
set_option maxRecDepth 10000
set_option linter.unusedVariables false

theorem ty_cases {k : Nat} {t : TyD} {d : Int} (h : rValidTy_f k t d = true) : t = ⟨1, [], []⟩ ∨ (∃ s, t = ⟨2, s, []⟩ ∧ rGreat s = true) ∨ (∃ s, t = ⟨7, s, []⟩ ∧ rSmall s = true) ∨
    ∃ n x d' k', t = ⟨n, [], [x]⟩ ∧ (n = 4 ∨ n = 5 ∨ n = 6) ∧ k = k' + 1 ∧ rValidTy_f k' x d' = true := by
  cases k with
  | zero => cases h
  | succ k =>
    obtain ⟨n, nm, l⟩ := t
    rw [rValidTy_f, rValidTy_b] at h
    dsimp only [bnd] at h
    by_cases h1 : n = 1
    · rw [if_pos h1] at h
      simp only [Bool.and_eq_true, decide_eq_true_eq, len_nil] at h
      left; rw [h1, h.1, h.2]
    by_cases h2 : n = 2
    · rw [if_neg h1, if_pos h2] at h
      simp only [Bool.and_eq_true, decide_eq_true_eq, len_nil] at h
      right; left; exact ⟨nm, by rw [h2, h.2], h.1⟩
    by_cases h7 : n = 7
    · rw [if_neg h1, if_neg h2, if_pos h7] at h
      simp only [Bool.and_eq_true, decide_eq_true_eq, len_nil] at h
      right; right; left; exact ⟨nm, by rw [h7, h.2], h.1⟩
    rw [if_neg h1, if_neg h2, if_neg h7] at h
    by_cases hn : n = 4 ∨ n = 5 ∨ n = 6
    · have hh : nm = [] ∧ (l.length : Int) = 1 ∧ rValidTy_f k (l.getD 0 default) (IntKind.i64.wrap (d + 1)) = true := by
        rcases hn with e | e | e <;> subst e <;> simp at h <;> exact ⟨h.1.1.2, by omega, by simpa using h.2⟩
      obtain ⟨e1, e2, e3⟩ := hh
      obtain ⟨x, rfl⟩ := List.length_eq_one_iff.1 (show l.length = 1 by omega)
      right; right; right
      exact ⟨n, x, _, k, by rw [e1], hn, rfl, e3⟩
    · rw [if_neg (by omega), if_neg (by omega), if_neg (by omega)] at h
      cases h

theorem tyT_int : tyT ⟨1, [], []⟩ = [105, 110, 116] := by unfold tyT; rw [if_pos rfl]
theorem tyT_great (s : List UInt8) : tyT ⟨2, s, []⟩ = s := by unfold tyT; rw [if_neg (by simp), if_pos (.inl rfl)]
theorem tyT_co (s : List UInt8) : tyT ⟨7, s, []⟩ = [99, 111] ++ (32 :: s) := by unfold tyT; rw [if_neg (by simp), if_neg (by simp), if_pos rfl]; rfl
theorem tyT_box (x : TyD) : tyT ⟨4, [], [x]⟩ = [98, 111, 120] ++ (32 :: tyT x) := by rw [tyT_one]; simp
theorem tyT_ref (x : TyD) : tyT ⟨5, [], [x]⟩ = 38 :: tyT x := by rw [tyT_one]; simp
theorem tyT_mut (x : TyD) : tyT ⟨6, [], [x]⟩ = 38 :: 109 :: 117 :: 116 :: 32 :: tyT x := by rw [tyT_one]; simp

theorem app32 (w s r : List UInt8) : w ++ (32 :: s) ++ r = w ++ (32 :: (s ++ r)) := by simp
def tyTag (s : List UInt8) : Int := if wd s = [105, 110, 116] then 1 else if wd s = [99, 111] then 7 else if wd s = [98, 111, 120] then 4 else if s.head? = some 38 then (if (s.drop 1).head? = some 109 then 6 else 5) else 2
theorem ty_hd {k : Nat} {t : TyD} {d : Int} (h : rValidTy_f k t d = true) (r : List UInt8) : (tyT t ++ r).head? ≠ some 109 := by
  rcases ty_cases h with rfl | ⟨s, rfl, hs⟩ | ⟨s, rfl, hs⟩ | ⟨n, x, d', k', rfl, hn, _, _⟩
  · rw [tyT_int]; simp
  · rw [tyT_great]
    have h1 := great_up hs
    cases s with
    | nil => exact absurd rfl (word_ne (great_word hs))
    | cons y s =>
      intro he
      have : y = 109 := by simpa using he
      subst this
      revert h1; simp [upF]
  · rw [tyT_co]; simp
  · rcases hn with rfl | rfl | rfl
    · rw [tyT_box]; simp
    · rw [tyT_ref]; simp
    · rw [tyT_mut]; simp
theorem ty_tag {k : Nat} {t : TyD} {d : Int} (h : rValidTy_f k t d = true) {r : List UInt8} (hr : Fo isN r) : tyTag (tyT t ++ r) = t.k := by
  have w38 : ∀ s : List UInt8, wd (38 :: s) = [] := fun s => by
    have := wd_app (w := []) (r := 38 :: s) (fun x hx => by cases hx) (Fo.cons (by decide +kernel))
    simpa using this
  have f32 : ∀ s : List UInt8, Fo isN (32 :: s) := fun s => Fo.cons (by decide +kernel)
  rcases ty_cases h with rfl | ⟨s, rfl, hs⟩ | ⟨s, rfl, hs⟩ | ⟨n, x, d', k', rfl, hn, _, hx⟩
  · rw [tyT_int, tyTag, wd_app (by decide +kernel) hr, if_pos rfl]
  · have hk := great_kw hs
    have hh : (s ++ r).head? ≠ some 38 := by
      cases s with
      | nil => exact absurd rfl (word_ne (great_word hs))
      | cons y s =>
        intro he
        have : y = 38 := by simpa using he
        subst this
        have := word_N (great_word hs) 38 (by simp)
        revert this; decide +kernel
    rw [tyT_great, tyTag, wd_app (word_N (great_word hs)) hr, if_neg (fun e => hk (by rw [e]; decide)), if_neg (fun e => hk (by rw [e]; decide)), if_neg (fun e => hk (by rw [e]; decide)), if_neg hh]
  · rw [tyT_co, tyTag, app32, wd_app (by decide +kernel) (f32 _), if_neg (by decide), if_pos rfl]
  · rcases hn with rfl | rfl | rfl
    · rw [tyT_box, tyTag, app32, wd_app (by decide +kernel) (f32 _), if_neg (by decide), if_neg (by decide), if_pos rfl]
    · rw [tyT_ref, tyTag, List.cons_append, w38, if_neg (by decide), if_neg (by decide), if_neg (by decide)]
      have q := ty_hd hx r
      simp at q ⊢
      exact q
    · rw [tyT_mut, tyTag, List.cons_append, w38, if_neg (by decide), if_neg (by decide), if_neg (by decide)]; simp
theorem ty_inj : ∀ (k k' : Nat) (t t' : TyD) (d d' : Int) (r r' : List UInt8), rValidTy_f k t d = true → rValidTy_f k' t' d' = true → Fo isN r → Fo isN r' → tyT t ++ r = tyT t' ++ r' → t = t' ∧ r = r'
  | k, k', t, t', d, d', r, r', h, h', hr, hr', e => by
    have htag : t.k = t'.k := by rw [← ty_tag h hr, ← ty_tag h' hr', e]
    have h0 := h
    have h0' := h'
    rcases ty_cases h with rfl | ⟨s, rfl, hs⟩ | ⟨s, rfl, hs⟩ | ⟨n, x, d1, k1, rfl, hn, rfl, hx⟩ <;> rcases ty_cases h' with rfl | ⟨s', rfl, hs'⟩ | ⟨s', rfl, hs'⟩ | ⟨n', x', d1', k1', rfl, hn', rfl, hx'⟩ <;> dsimp only at htag <;> try (exfalso; omega)
    · exact ⟨rfl, List.append_cancel_left e⟩
    · rw [tyT_great, tyT_great] at e
      obtain ⟨rfl, rfl⟩ := word_inj (word_N (great_word hs)) (word_N (great_word hs')) hr hr' e
      exact ⟨rfl, rfl⟩
    · rw [tyT_co, tyT_co] at e
      simp only [List.cons_append, List.nil_append, List.cons.injEq, true_and] at e
      obtain ⟨rfl, rfl⟩ := word_inj (word_N (small_word hs)) (word_N (small_word hs')) hr hr' e
      exact ⟨rfl, rfl⟩
    · subst htag
      have e2 : tyT x ++ r = tyT x' ++ r' := by
        rcases hn with rfl | rfl | rfl
        · rw [tyT_box, tyT_box] at e; simpa using e
        · rw [tyT_ref, tyT_ref] at e; simpa using e
        · rw [tyT_mut, tyT_mut] at e; simpa using e
      obtain ⟨rfl, rfl⟩ := ty_inj k1 k1' x x' d1 d1' r r' hx hx' hr hr' e2
      exact ⟨rfl, rfl⟩

theorem joinT_nil {A : Type} (f : A → List UInt8) : joinT f [] = [] := by simp [joinT, Lib.join_nil]
theorem joinT_one {A : Type} (f : A → List UInt8) (x : A) : joinT f [x] = f x := by simp [joinT, Lib.join_one]
theorem joinT_two {A : Type} (f : A → List UInt8) (x y : A) (r : List A) : joinT f (x :: y :: r) = f x ++ (44 :: 32 :: joinT f (y :: r)) := by simp [joinT, Lib.join, List.intercalate]
theorem join_inj {A : Type} {f : A → List UInt8} {V : A → Prop} {F : UInt8 → Bool} {c : UInt8} (h44 : F 44 = false) (hc : F c = false) (hne : c ≠ 44)
    (hinj : ∀ a b r r', V a → V b → Fo F r → Fo F r' → f a ++ r = f b ++ r' → a = b ∧ r = r') (hh : ∀ a, V a → ∃ x s, f a = x :: s ∧ x ≠ c) :
    ∀ {l l' : List A} {r r' : List UInt8}, (∀ a ∈ l, V a) → (∀ a ∈ l', V a) → joinT f l ++ c :: r = joinT f l' ++ c :: r' → l = l' ∧ r = r'
  | [], [], r, r', _, _, e => by
    rw [joinT_nil] at e
    exact ⟨rfl, (List.cons.inj e).2⟩
  | [], y :: l', r, r', _, h', e => by
    obtain ⟨z, s, ez, hz⟩ := hh y (h' y (by simp))
    have : ∃ u, joinT f (y :: l') = z :: u := by
      cases l' with
      | nil => rw [joinT_one]; exact ⟨s, ez⟩
      | cons w l' => rw [joinT_two, ez]; exact ⟨_, rfl⟩
    obtain ⟨u, eu⟩ := this
    rw [joinT_nil, eu] at e
    exact absurd (List.cons.inj e).1.symm hz
  | y :: l, [], r, r', h, _, e => by
    obtain ⟨z, s, ez, hz⟩ := hh y (h y (by simp))
    have : ∃ u, joinT f (y :: l) = z :: u := by
      cases l with
      | nil => rw [joinT_one]; exact ⟨s, ez⟩
      | cons w l => rw [joinT_two, ez]; exact ⟨_, rfl⟩
    obtain ⟨u, eu⟩ := this
    rw [joinT_nil, eu] at e
    exact absurd (List.cons.inj e).1 hz
  | [x], [y], r, r', h, h', e => by
    rw [joinT_one, joinT_one] at e
    obtain ⟨rfl, e2⟩ := hinj x y _ _ (h x (by simp)) (h' y (by simp)) (Fo.cons hc) (Fo.cons hc) e
    exact ⟨rfl, (List.cons.inj e2).2⟩
  | [x], y :: z :: l', r, r', h, h', e => by
    rw [joinT_one, joinT_two, List.append_assoc] at e
    obtain ⟨rfl, e2⟩ := hinj x y _ _ (h x (by simp)) (h' y (by simp)) (Fo.cons hc) (Fo.cons h44) e
    exact absurd (List.cons.inj e2).1 hne
  | x :: w :: l, [y], r, r', h, h', e => by
    rw [joinT_one, joinT_two, List.append_assoc] at e
    obtain ⟨rfl, e2⟩ := hinj x y _ _ (h x (by simp)) (h' y (by simp)) (Fo.cons h44) (Fo.cons hc) e
    exact absurd (List.cons.inj e2).1.symm hne
  | x :: w :: l, y :: z :: l', r, r', h, h', e => by
    rw [joinT_two, joinT_two, List.append_assoc, List.append_assoc] at e
    obtain ⟨rfl, e2⟩ := hinj x y _ _ (h x (by simp)) (h' y (by simp)) (Fo.cons h44) (Fo.cons h44) e
    have e2 : joinT f (w :: l) ++ c :: r = joinT f (z :: l') ++ c :: r' := (List.cons.inj (List.cons.inj e2).2).2
    obtain ⟨e3, e4⟩ := join_inj h44 hc hne hinj hh (fun a ha => h a (by simp at ha ⊢; exact .inr ha)) (fun a ha => h' a (by simp at ha ⊢; exact .inr ha)) e2
    exact ⟨by rw [e3], e4⟩

theorem op_head {o : OperD} (h : okOp o) : ∃ x s, opT o = x :: s ∧ x ≠ 41 := by
  unfold opT
  rcases h with ⟨h1, h2, _⟩ | ⟨h1, _, h2⟩
  · rw [if_pos h1]
    rcases dig_form h2 with ⟨g1, g2⟩ | ⟨g1, g2⟩
    · obtain ⟨x, l, e, hx⟩ := dec_ne o.n.toNat
      rw [g2, e]
      exact ⟨x, l, rfl, by rintro rfl; simp at hx⟩
    · rw [g2]; exact ⟨_, _, rfl, by decide⟩
  · rw [if_neg (by simp [h1])]
    obtain ⟨h3, _, _⟩ := place_ok h2
    cases hn : o.p.name with
    | nil => exact absurd hn (word_ne (small_word h3))
    | cons x l =>
      refine ⟨x, l ++ (o.p.path.map stpT).flatten, by rw [plT_eq, hn]; rfl, ?_⟩
      rintro rfl
      have := word_N (small_word h3) 41 (by rw [hn]; simp)
      revert this; decide +kernel
theorem args_inj {l l' : List OperD} {r r' : List UInt8} (h : ∀ o ∈ l, okOp o) (h' : ∀ o ∈ l', okOp o) (e : argT l ++ r = argT l' ++ r') : l = l' ∧ r = r' := by
  unfold argT at e
  simp only [List.append_assoc, List.cons_append, List.nil_append, List.cons.injEq, true_and] at e
  exact join_inj (F := isO) (by decide +kernel) (by decide +kernel) (by decide) (fun a b r r' ha hb hr hr' => opT_inj ha hb hr hr') (fun a => op_head) h h' e

structure okRv (v : RvD) : Prop where
  ops : ∀ o ∈ v.ops, okOp o
  sh : (v.k = 0 ∨ v.k = 8 ∨ v.k = 15) ∧ v.name = [] ∧ v.variant = [] ∧ v.p = ⟨[], []⟩ ∧ v.ops.length = 1 ∨
    (v.k = 1 ∨ v.k = 2 ∨ v.k = 3 ∨ v.k = 4 ∨ v.k = 5) ∧ v.name = [] ∧ v.variant = [] ∧ v.p = ⟨[], []⟩ ∧ v.ops.length = 2 ∨
    (v.k = 6 ∨ v.k = 7) ∧ v.name = [] ∧ v.variant = [] ∧ v.ops = [] ∧ rValidPlace v.p false = true ∨
    (v.k = 9 ∨ v.k = 13 ∨ v.k = 14) ∧ v.name = [] ∧ v.variant = [] ∧ v.ops = [] ∧ rValidPlace v.p true = true ∨
    v.k = 10 ∧ rGreat v.name = true ∧ v.variant = [] ∧ v.p = ⟨[], []⟩ ∨
    v.k = 11 ∧ rGreat v.name = true ∧ rGreat v.variant = true ∧ v.p = ⟨[], []⟩ ∨
    v.k = 12 ∧ rSmall v.name = true ∧ v.variant = [] ∧ v.p = ⟨[], []⟩
theorem rv_ok {v : RvD} (h : rValidRv v = true) (hw : ∀ o ∈ v.ops, inI64 o.n) : okRv v := by
  unfold rValidRv at h
  rw [run_all rValidRv_l2 rValidOper (by rw [rValidRv_l2]) (fun x xs => by rw [rValidRv_l2]; cases rValidOper x <;> simp) v.ops, Bool.and_eq_true, List.all_eq_true] at h
  obtain ⟨ho, h⟩ := h
  dsimp only [bnd] at h
  refine ⟨fun o hm => oper_ok (ho o hm) (hw o hm), ?_⟩
  by_cases a : v.k = 0 ∨ v.k = 8 ∨ v.k = 15
  · have : (if v.k = 0 then true else if v.k = 8 then true else decide (v.k = 15)) = true := by rcases a with a | a | a <;> rw [a] <;> decide
    rw [this, if_pos rfl] at h
    simp only [Bool.and_eq_true, decide_eq_true_eq, noPlace_iff] at h
    exact .inl ⟨a, h.1.1.1, h.1.1.2, h.2, by omega⟩
  have n1 : (if v.k = 0 then true else if v.k = 8 then true else decide (v.k = 15)) = false := by rw [if_neg (by omega), if_neg (by omega), decide_eq_false (by omega)]
  rw [n1, if_neg (by decide)] at h
  by_cases b : v.k = 1 ∨ v.k = 2 ∨ v.k = 3 ∨ v.k = 4 ∨ v.k = 5
  · have : (if v.k = 1 then true else if v.k = 2 then true else if v.k = 3 then true else if v.k = 4 then true else decide (v.k = 5)) = true := by rcases b with b | b | b | b | b <;> rw [b] <;> decide
    rw [this, if_pos rfl] at h
    simp only [Bool.and_eq_true, decide_eq_true_eq, noPlace_iff] at h
    exact .inr (.inl ⟨b, h.1.1.1, h.1.1.2, h.2, by omega⟩)
  have n2 : (if v.k = 1 then true else if v.k = 2 then true else if v.k = 3 then true else if v.k = 4 then true else decide (v.k = 5)) = false := by
    rw [if_neg (by omega), if_neg (by omega), if_neg (by omega), if_neg (by omega), decide_eq_false (by omega)]
  rw [n2, if_neg (by decide)] at h
  by_cases c : v.k = 6 ∨ v.k = 7
  · have : (if v.k = 6 then true else decide (v.k = 7)) = true := by rcases c with c | c <;> rw [c] <;> decide
    rw [this, if_pos rfl] at h
    simp only [Bool.and_eq_true, decide_eq_true_eq, len_nil] at h
    exact .inr (.inr (.inl ⟨c, h.1.1.1, h.1.1.2, h.1.2, h.2⟩))
  have n3 : (if v.k = 6 then true else decide (v.k = 7)) = false := by rw [if_neg (by omega), decide_eq_false (by omega)]
  rw [n3, if_neg (by decide)] at h
  by_cases d : v.k = 9 ∨ v.k = 13 ∨ v.k = 14
  · have : (if v.k = 9 then true else if v.k = 13 then true else decide (v.k = 14)) = true := by rcases d with d | d | d <;> rw [d] <;> decide
    rw [this, if_pos rfl] at h
    simp only [Bool.and_eq_true, decide_eq_true_eq, len_nil] at h
    exact .inr (.inr (.inr (.inl ⟨d, h.1.1.1, h.1.1.2, h.1.2, h.2⟩)))
  have n4 : (if v.k = 9 then true else if v.k = 13 then true else decide (v.k = 14)) = false := by rw [if_neg (by omega), if_neg (by omega), decide_eq_false (by omega)]
  rw [n4, if_neg (by decide)] at h
  by_cases e : v.k = 10
  · rw [if_pos e] at h
    simp only [Bool.and_eq_true, decide_eq_true_eq, noPlace_iff] at h
    exact .inr (.inr (.inr (.inr (.inl ⟨e, h.1.1, h.1.2, h.2⟩))))
  by_cases f : v.k = 11
  · rw [if_neg e, if_pos f] at h
    simp only [Bool.and_eq_true, decide_eq_true_eq, noPlace_iff] at h
    exact .inr (.inr (.inr (.inr (.inr (.inl ⟨f, h.1.1.1, h.1.1.2, h.2⟩)))))
  by_cases g : v.k = 12
  · rw [if_neg e, if_neg f, if_pos g] at h
    simp only [Bool.and_eq_true, decide_eq_true_eq, noPlace_iff] at h
    exact .inr (.inr (.inr (.inr (.inr (.inr ⟨g, h.1.1, h.1.2, h.2⟩)))))
  · rw [if_neg e, if_neg f, if_neg g] at h
    cases h
end Go.Proofs.Tryz
end
section
namespace Go.Proofs.Tryz
open Go Go.AM
set_option maxRecDepth 10000
set_option linter.unusedVariables false

theorem opAt_0 (o : OperD) (l : List OperD) : opAt (o :: l) 0 = opT o := by
  unfold opAt
  rw [if_neg (by simp <;> omega)]
  rfl
theorem opAt_1 (o q : OperD) (l : List OperD) : opAt (o :: q :: l) 1 = opT q := by
  unfold opAt
  rw [if_neg (by simp; omega)]
  rfl
def rvTag (s : List UInt8) : Int :=
  if wd s = [98, 111, 120] then 8 else if wd s = [119, 97, 105, 116] then 15 else if wd s = [117, 110, 98, 111, 120] then 9 else if wd s = [97, 119, 97, 105, 116] then 13 else if wd s = [112, 111, 108, 108] then 14
  else if wd s = [115, 116, 97, 114, 116] then 12 else if s.head? = some 38 then (if wd (s.drop 1) = [109, 117, 116] then 7 else 6)
  else if upF (wd s) = true then (if (s.drop (wd s).length).head? = some 40 then 10 else 11) else 0
def rvK (k : Int) : Int := if 1 ≤ k ∧ k ≤ 5 then 0 else k
theorem wd_kw {w : List UInt8} (h : ∀ x ∈ w, isN x = true) (s : List UInt8) : wd (w ++ (32 :: s)) = w := wd_app h (Fo.cons (by decide +kernel))
theorem not_kw {w s : List UInt8} (h : w ∉ kwds) (hs : s ∈ kwds) : ¬ w = s := fun e => h (e ▸ hs)
theorem tag_op {o : OperD} (ho : okOp o) {r : List UInt8} (hr : Fo isN r) : rvTag (opT o ++ r) = 0 := by
  obtain ⟨⟨h1, h2⟩, h3⟩ := opT_wd ho hr
  have h38 : (opT o ++ r).head? ≠ some 38 := by
    rcases h3 with ⟨_, h, _⟩ | h
    · rw [h]; decide
    · intro hc
      apply h
      cases hs : opT o ++ r with
      | nil => rfl
      | cons x l =>
        rw [hs] at hc
        have : x = 38 := by simpa using hc
        subst this
        have := wd_app (w := []) (r := 38 :: l) (fun x hx => by cases hx) (Fo.cons (by decide +kernel))
        simpa using this
  unfold rvTag
  rw [if_neg (not_kw h1 (by decide)), if_neg (not_kw h1 (by decide)), if_neg (not_kw h1 (by decide)), if_neg (not_kw h1 (by decide)), if_neg (not_kw h1 (by decide)), if_neg (not_kw h1 (by decide)), if_neg h38, h2]
  rfl
theorem great_38 {s : List UInt8} (h : rGreat s = true) (r : List UInt8) : (s ++ r).head? ≠ some 38 := by
  cases s with
  | nil => exact absurd rfl (word_ne (great_word h))
  | cons y s =>
    intro he
    have : y = 38 := by simpa using he
    subst this
    have := word_N (great_word h) 38 (by simp)
    revert this; decide +kernel
theorem tag_great {s : List UInt8} (h : rGreat s = true) {r : List UInt8} (hr : Fo isN r) : rvTag (s ++ r) = if r.head? = some 40 then 10 else 11 := by
  have hk := great_kw h
  unfold rvTag
  rw [wd_app (word_N (great_word h)) hr, if_neg (not_kw hk (by decide)), if_neg (not_kw hk (by decide)), if_neg (not_kw hk (by decide)), if_neg (not_kw hk (by decide)), if_neg (not_kw hk (by decide)), if_neg (not_kw hk (by decide)), if_neg (great_38 h r), if_pos (great_up h), List.drop_left]

theorem set_0 {v : RvD} (h : v.k = 0) : setT v = opAt v.ops 0 := by simp [setT, setR, signT, h]
theorem set_6 {v : RvD} (h : v.k = 6) : setT v = 38 :: plT v.p := by simp [setT, setR, signT, h]
theorem set_7 {v : RvD} (h : v.k = 7) : setT v = 38 :: ([109, 117, 116] ++ (32 :: plT v.p)) := by simp [setT, setR, signT, h]
theorem set_8 {v : RvD} (h : v.k = 8) : setT v = [98, 111, 120] ++ (32 :: opAt v.ops 0) := by simp [setT, setR, signT, h]
theorem set_9 {v : RvD} (h : v.k = 9) : setT v = [117, 110, 98, 111, 120] ++ (32 :: plT v.p) := by simp [setT, setR, signT, h]
theorem set_13 {v : RvD} (h : v.k = 13) : setT v = [97, 119, 97, 105, 116] ++ (32 :: plT v.p) := by simp [setT, setR, signT, h]
theorem set_14 {v : RvD} (h : v.k = 14) : setT v = [112, 111, 108, 108] ++ (32 :: plT v.p) := by simp [setT, setR, signT, h]
theorem set_15 {v : RvD} (h : v.k = 15) : setT v = [119, 97, 105, 116] ++ (32 :: opAt v.ops 0) := by simp [setT, setR, signT, h]
theorem set_10 {v : RvD} (h : v.k = 10) : setT v = v.name ++ argT v.ops := by simp [setT, setR, signT, h]
theorem set_12 {v : RvD} (h : v.k = 12) : setT v = [115, 116, 97, 114, 116] ++ (32 :: (v.name ++ argT v.ops)) := by simp [setT, setR, signT, h]
theorem set_11 {v : RvD} (h : v.k = 11) : setT v = v.name ++ ([58, 58] ++ (v.variant ++ argO v.ops)) := by simp [setT, setR, signT, h]
theorem set_b {v : RvD} (h : v.k = 1 ∨ v.k = 2 ∨ v.k = 3 ∨ v.k = 4 ∨ v.k = 5) : setT v = opAt v.ops 0 ++ (signT v.k ++ opAt v.ops 1) := by
  have : signT v.k ≠ [] := by rcases h with h | h | h | h | h <;> rw [h] <;> decide
  rw [setT, if_neg this, List.append_assoc]
theorem sign_Fo {k : Int} (h : k = 1 ∨ k = 2 ∨ k = 3 ∨ k = 4 ∨ k = 5) (r : List UInt8) : Fo isO (signT k ++ r) := by
  rcases h with h | h | h | h | h <;> subst h <;> exact Fo.cons (by decide +kernel)
theorem fo59 (r : List UInt8) : Fo isO (59 :: r) := Fo.cons (by decide +kernel)
theorem argT_hd (l : List OperD) (r : List UInt8) : ∃ s, argT l ++ r = 40 :: s := ⟨joinT opT l ++ 41 :: r, by simp [argT]⟩
theorem len_one {A : Type} {l : List A} (h : l.length = 1) : ∃ x, l = [x] := List.length_eq_one_iff.1 h
theorem len_two {A : Type} {l : List A} (h : l.length = 2) : ∃ x y, l = [x, y] := by
  match l, h with
  | [x, y], _ => exact ⟨x, y, rfl⟩

theorem rv_tag {v : RvD} (h : okRv v) (r : List UInt8) : rvTag (setT v ++ 59 :: r) = rvK v.k := by
  obtain ⟨ho, h⟩ := h
  have hO := (fo59 r).ofO
  have w38 : ∀ s : List UInt8, wd (38 :: s) = [] := fun s => by
    have := wd_app (w := []) (r := 38 :: s) (fun x hx => by cases hx) (Fo.cons (by decide +kernel))
    simpa using this
  rcases h with ⟨hk, _, _, _, hl⟩ | ⟨hk, _, _, _, hl⟩ | ⟨hk, _, _, _, hp⟩ | ⟨hk, _, _, _, hp⟩ | ⟨hk, hn, _⟩ | ⟨hk, hn, _⟩ | ⟨hk, hn, _⟩
  · obtain ⟨o, e⟩ := len_one hl
    have ho' := ho o (by rw [e]; simp)
    rcases hk with hk | hk | hk
    · rw [set_0 hk, e, opAt_0, hk, tag_op ho' hO]; rfl
    · rw [set_8 hk, app32, hk, rvTag, wd_kw (by decide +kernel), if_pos rfl]; rfl
    · rw [set_15 hk, app32, hk, rvTag, wd_kw (by decide +kernel), if_neg (by decide), if_pos rfl]; rfl
  · obtain ⟨o, q, e⟩ := len_two hl
    have ho' := ho o (by rw [e]; simp)
    rw [set_b hk, List.append_assoc, List.append_assoc, e, opAt_0, tag_op ho' (sign_Fo hk _).ofO]
    unfold rvK
    rw [if_pos (by omega)]
  · rcases hk with hk | hk
    · have hs := (place_ok hp).1
      rw [set_6 hk, List.cons_append, hk, rvTag, w38, if_neg (by decide), if_neg (by decide), if_neg (by decide), if_neg (by decide), if_neg (by decide), if_neg (by decide), if_pos List.head?_cons]
      rw [show (38 :: (plT v.p ++ 59 :: r)).drop 1 = plT v.p ++ 59 :: r from rfl, plT_wd hp hO, if_neg (not_kw (small_kw hs) (by decide))]
      rfl
    · rw [set_7 hk, List.cons_append, hk, rvTag, w38, if_neg (by decide), if_neg (by decide), if_neg (by decide), if_neg (by decide), if_neg (by decide), if_neg (by decide), if_pos List.head?_cons]
      rw [show (38 :: ([109, 117, 116] ++ (32 :: plT v.p) ++ 59 :: r)).drop 1 = [109, 117, 116] ++ (32 :: (plT v.p ++ 59 :: r)) by simp, wd_kw (by decide +kernel), if_pos rfl]
      rfl
  · rcases hk with hk | hk | hk
    · rw [set_9 hk, app32, hk, rvTag, wd_kw (by decide +kernel), if_neg (by decide), if_neg (by decide), if_pos rfl]; rfl
    · rw [set_13 hk, app32, hk, rvTag, wd_kw (by decide +kernel), if_neg (by decide), if_neg (by decide), if_neg (by decide), if_pos rfl]; rfl
    · rw [set_14 hk, app32, hk, rvTag, wd_kw (by decide +kernel), if_neg (by decide), if_neg (by decide), if_neg (by decide), if_neg (by decide), if_pos rfl]; rfl
  · obtain ⟨s, hs⟩ := argT_hd v.ops (59 :: r)
    rw [set_10 hk, List.append_assoc, hs, tag_great hn (Fo.cons (by decide +kernel)), hk]; rfl
  · have e : setT v ++ 59 :: r = v.name ++ (58 :: (58 :: (v.variant ++ argO v.ops ++ 59 :: r))) := by rw [set_11 hk]; simp
    rw [e, tag_great hn (Fo.cons (by decide +kernel)), hk]; rfl
  · rw [set_12 hk, app32, hk, rvTag, wd_kw (by decide +kernel), if_neg (by decide), if_neg (by decide), if_neg (by decide), if_neg (by decide), if_neg (by decide), if_pos rfl]; rfl

theorem pl_tail {p q : PlaceD} {b c : Bool} {r r' : List UInt8} (hp : rValidPlace p b = true) (hq : rValidPlace q c = true) (hr : Fo isO r) (hr' : Fo isO r') (e : plT p ++ r = plT q ++ r') : p = q ∧ r = r' := by
  obtain ⟨e1, e2⟩ := word_inj (plT_O hp) (plT_O hq) hr hr' e
  exact ⟨plT_inj hp hq e1, e2⟩
theorem rv_inj {v w : RvD} {r r' : List UInt8} (h : okRv v) (h' : okRv w) (e : setT v ++ 59 :: r = setT w ++ 59 :: r') : v = w ∧ r = r' := by
  have ht : rvK v.k = rvK w.k := by rw [← rv_tag h r, ← rv_tag h' r', e]
  obtain ⟨ho, h⟩ := h
  obtain ⟨ho', h'⟩ := h'
  unfold rvK at ht
  have mk : v.k = w.k → v.ops = w.ops → v.p = w.p → v.name = w.name → v.variant = w.variant → r = r' → v = w ∧ r = r' := fun a b c d e f => ⟨(rv_iff v w).2 ⟨a, b, c, d, e⟩, f⟩
  rcases h with ⟨hk, hn, hv, hp, hl⟩ | ⟨hk, hn, hv, hp, hl⟩ | ⟨hk, hn, hv, hl, hp⟩ | ⟨hk, hn, hv, hl, hp⟩ | ⟨hk, hn, hv, hp⟩ | ⟨hk, hn, hv, hp⟩ | ⟨hk, hn, hv, hp⟩ <;>
    rcases h' with ⟨hk', hn', hv', hp', hl'⟩ | ⟨hk', hn', hv', hp', hl'⟩ | ⟨hk', hn', hv', hl', hp'⟩ | ⟨hk', hn', hv', hl', hp'⟩ | ⟨hk', hn', hv', hp'⟩ | ⟨hk', hn', hv', hp'⟩ | ⟨hk', hn', hv', hp'⟩ <;>
    try (exfalso; revert ht; split <;> split <;> intro ht <;> omega)
  · have hkk : v.k = w.k := by revert ht; split <;> split <;> intro ht <;> omega
    obtain ⟨o, eo⟩ := len_one hl
    obtain ⟨q, eq⟩ := len_one hl'
    have go := ho o (by rw [eo]; simp)
    have gq := ho' q (by rw [eq]; simp)
    have e2 : opT o ++ 59 :: r = opT q ++ 59 :: r' := by
      rcases hk with hk | hk | hk
      · rw [set_0 hk, set_0 (hkk ▸ hk), eo, eq, opAt_0, opAt_0] at e; exact e
      · rw [set_8 hk, set_8 (hkk ▸ hk), eo, eq, opAt_0, opAt_0] at e; simpa using e
      · rw [set_15 hk, set_15 (hkk ▸ hk), eo, eq, opAt_0, opAt_0] at e; simpa using e
    obtain ⟨rfl, e3⟩ := opT_inj go gq (fo59 r) (fo59 r') e2
    exact mk hkk (by rw [eo, eq]) (by rw [hp, hp']) (by rw [hn, hn']) (by rw [hv, hv']) (List.cons.inj e3).2
  · exfalso
    obtain ⟨o, eo⟩ := len_one hl
    obtain ⟨q, q2, eq⟩ := len_two hl'
    have hk0 : v.k = 0 := by revert ht; split <;> split <;> intro ht <;> omega
    rw [set_0 hk0, set_b hk', eo, eq, opAt_0, opAt_0, List.append_assoc, List.append_assoc] at e
    obtain ⟨_, e3⟩ := opT_inj (ho o (by rw [eo]; simp)) (ho' q (by rw [eq]; simp)) (fo59 r) (sign_Fo hk' _) e
    rcases hk' with hk' | hk' | hk' | hk' | hk' <;> rw [hk'] at e3 <;> simp [signT] at e3
  · exfalso
    obtain ⟨o, eo⟩ := len_one hl'
    obtain ⟨q, q2, eq⟩ := len_two hl
    have hk0 : w.k = 0 := by revert ht; split <;> split <;> intro ht <;> omega
    rw [set_0 hk0, set_b hk, eo, eq, opAt_0, opAt_0, List.append_assoc, List.append_assoc] at e
    obtain ⟨_, e3⟩ := opT_inj (ho q (by rw [eq]; simp)) (ho' o (by rw [eo]; simp)) (sign_Fo hk _) (fo59 r') e
    rcases hk with hk | hk | hk | hk | hk <;> rw [hk] at e3 <;> simp [signT] at e3
  · obtain ⟨o, o2, eo⟩ := len_two hl
    obtain ⟨q, q2, eq⟩ := len_two hl'
    rw [set_b hk, set_b hk', eo, eq, opAt_0, opAt_0, opAt_1, opAt_1, List.append_assoc, List.append_assoc, List.append_assoc, List.append_assoc] at e
    obtain ⟨rfl, e3⟩ := opT_inj (ho o (by rw [eo]; simp)) (ho' q (by rw [eq]; simp)) (sign_Fo hk _) (sign_Fo hk' _) e
    have e4 : v.k = w.k ∧ opT o2 ++ 59 :: r = opT q2 ++ 59 :: r' := by
      rcases hk with hk | hk | hk | hk | hk <;> rcases hk' with hk' | hk' | hk' | hk' | hk' <;> rw [hk, hk'] at e3 ⊢ <;> simp [signT] at e3 ⊢ <;> exact e3
    obtain ⟨rfl, e5⟩ := opT_inj (ho o2 (by rw [eo]; simp)) (ho' q2 (by rw [eq]; simp)) (fo59 r) (fo59 r') e4.2
    exact mk e4.1 (by rw [eo, eq]) (by rw [hp, hp']) (by rw [hn, hn']) (by rw [hv, hv']) (List.cons.inj e5).2
  · have hkk : v.k = w.k := by revert ht; split <;> split <;> intro ht <;> omega
    have e2 : plT v.p ++ 59 :: r = plT w.p ++ 59 :: r' := by
      rcases hk with hk | hk
      · rw [set_6 hk, set_6 (hkk ▸ hk)] at e; simpa using e
      · rw [set_7 hk, set_7 (hkk ▸ hk)] at e; simpa using e
    obtain ⟨e3, e4⟩ := pl_tail hp hp' (fo59 r) (fo59 r') e2
    exact mk hkk (by rw [hl, hl']) e3 (by rw [hn, hn']) (by rw [hv, hv']) (List.cons.inj e4).2
  · have hkk : v.k = w.k := by revert ht; split <;> split <;> intro ht <;> omega
    have e2 : plT v.p ++ 59 :: r = plT w.p ++ 59 :: r' := by
      rcases hk with hk | hk | hk
      · rw [set_9 hk, set_9 (hkk ▸ hk)] at e; simpa using e
      · rw [set_13 hk, set_13 (hkk ▸ hk)] at e; simpa using e
      · rw [set_14 hk, set_14 (hkk ▸ hk)] at e; simpa using e
    obtain ⟨e3, e4⟩ := pl_tail hp hp' (fo59 r) (fo59 r') e2
    exact mk hkk (by rw [hl, hl']) e3 (by rw [hn, hn']) (by rw [hv, hv']) (List.cons.inj e4).2
  · obtain ⟨s, hs⟩ := argT_hd v.ops (59 :: r)
    obtain ⟨s', hs'⟩ := argT_hd w.ops (59 :: r')
    rw [set_10 hk, set_10 hk', List.append_assoc, List.append_assoc] at e
    obtain ⟨e1, e2⟩ := word_inj (word_N (great_word hn)) (word_N (great_word hn')) (by rw [hs]; exact Fo.cons (by decide +kernel)) (by rw [hs']; exact Fo.cons (by decide +kernel)) e
    obtain ⟨e3, e4⟩ := args_inj ho ho' e2
    exact mk (by rw [hk, hk']) e3 (by rw [hp, hp']) e1 (by rw [hv, hv']) (List.cons.inj e4).2
  · have f11 : ∀ (v : RvD) (r : List UInt8), v.k = 11 → setT v ++ 59 :: r = v.name ++ (58 :: (58 :: (v.variant ++ (argO v.ops ++ 59 :: r)))) := fun v r hk => by rw [set_11 hk]; simp
    rw [f11 v r hk, f11 w r' hk'] at e
    obtain ⟨e1, e2⟩ := word_inj (word_N (great_word hn)) (word_N (great_word hn')) (Fo.cons (by decide +kernel)) (Fo.cons (by decide +kernel)) e
    simp only [List.cons.injEq, true_and] at e2
    have hF : ∀ (l : List OperD) (r : List UInt8), Fo isN (argO l ++ 59 :: r) := fun l r => by
      unfold argO
      split
      · exact Fo.cons (by decide +kernel)
      · obtain ⟨s, hs⟩ := argT_hd l (59 :: r)
        rw [hs]; exact Fo.cons (by decide +kernel)
    obtain ⟨e3, e4⟩ := word_inj (word_N (great_word hv)) (word_N (great_word hv')) (hF _ _) (hF _ _) e2
    have e5 : v.ops = w.ops ∧ r = r' := by
      unfold argO at e4
      split at e4 <;> split at e4
      · rename_i a b
        exact ⟨by rw [List.length_eq_zero_iff.1 a, List.length_eq_zero_iff.1 b], (List.cons.inj e4).2⟩
      · obtain ⟨s, hs⟩ := argT_hd w.ops (59 :: r')
        rw [hs] at e4; simp at e4
      · obtain ⟨s, hs⟩ := argT_hd v.ops (59 :: r)
        rw [hs] at e4; simp at e4
      · obtain ⟨e6, e7⟩ := args_inj ho ho' e4
        exact ⟨e6, (List.cons.inj e7).2⟩
    exact mk (by rw [hk, hk']) e5.1 (by rw [hp, hp']) e1 e3 e5.2
  · obtain ⟨s, hs⟩ := argT_hd v.ops (59 :: r)
    obtain ⟨s', hs'⟩ := argT_hd w.ops (59 :: r')
    rw [set_12 hk, set_12 hk'] at e
    simp only [List.append_assoc, List.cons_append, List.nil_append, List.cons.injEq, true_and] at e
    obtain ⟨e1, e2⟩ := word_inj (word_N (small_word hn)) (word_N (small_word hn')) (by rw [hs]; exact Fo.cons (by decide +kernel)) (by rw [hs']; exact Fo.cons (by decide +kernel)) e
    obtain ⟨e3, e4⟩ := args_inj ho ho' e2
    exact mk (by rw [hk, hk']) e3 (by rw [hp, hp']) e1 (by rw [hv, hv']) (List.cons.inj e4).2
end Go.Proofs.Tryz
end
section
namespace Go.Proofs.Tryz
open Go Go.AM
set_option maxRecDepth 10000
set_option linter.unusedVariables false

theorem wf_in_row {A : Type} {f : A → List V} : ∀ {l : List A} {x : A}, wfR (l.map f) → x ∈ l → wfL (f x)
  | y :: l, x, h, hx => by
    simp only [List.map_cons, wfR] at h
    rcases List.mem_cons.1 hx with rfl | hx
    · exact h.1
    · exact wf_in_row h.2 hx
theorem wf_oper {o : OperD} (h : wfL (operC o)) : inI64 o.n := by
  simp only [operC_eq, wfL, wfV] at h
  exact wf_in h.2.1
theorem wf_rv {v : RvD} (h : wfL (rvC v)) : ∀ o ∈ v.ops, inI64 o.n := fun o ho => by
  simp only [rvC_eq, wfL, wfV] at h
  exact wf_oper (wf_in_row h.2.1 ho)

theorem st_cases {rB : List StmtD → Int → Bool} {r : StmtD → Int → Bool} {t : StmtD} {d : Int} (h : rValidStmt_b rB r t d = true) :
    t.k = 0 ∧ rSmall t.name = true ∧ rValidTy t.ty 0 = true ∧ rValidRv t.rv = true ∧ t.p = ⟨[], []⟩ ∧ t.op = ⟨false, 0, ⟨[], []⟩⟩ ∧ t.then_ = [] ∧ t.else_ = [] ∧ t.arms = [] ∨
    t.name = [] ∧ t.ty = ⟨0, [], []⟩ ∧ (
      t.k = 1 ∧ rValidPlace t.p false = true ∧ rValidRv t.rv = true ∧ t.op = ⟨false, 0, ⟨[], []⟩⟩ ∧ t.then_ = [] ∧ t.else_ = [] ∧ t.arms = [] ∨
      t.rv = ⟨0, [], ⟨[], []⟩, [], []⟩ ∧ (
        (t.k = 2 ∨ t.k = 3) ∧ t.p = ⟨[], []⟩ ∧ rValidOper t.op = true ∧ (∃ w, rB t.then_ w = true ∧ (t.k = 2 → rB t.else_ w = true)) ∧ (t.k = 3 → t.else_ = []) ∧ t.arms = [] ∨
        t.then_ = [] ∧ t.else_ = [] ∧ (
          t.k = 4 ∧ rValidPlace t.p true = true ∧ t.op = ⟨false, 0, ⟨[], []⟩⟩ ∧ (∃ w, ∀ a ∈ t.arms, rGreat a.variant = true ∧ (a.bind = [] ∨ rSmall a.bind = true) ∧ rB a.body w = true) ∨
          t.arms = [] ∧ (
            (t.k = 5 ∨ t.k = 6 ∨ t.k = 7) ∧ t.p = ⟨[], []⟩ ∧ rValidOper t.op = true ∨
            t.k = 8 ∧ rValidPlace t.p true = true ∧ t.op = ⟨false, 0, ⟨[], []⟩⟩)))) := by
  unfold rValidStmt_b at h
  rw [rArms_eq] at h
  dsimp only [bnd] at h
  by_cases h0 : t.k = 0
  · simp only [if_pos h0, Bool.and_eq_true, decide_eq_true_eq, noPlace_iff, noOper_iff, len_nil] at h
    left; grind
  right
  simp only [if_neg h0] at h
  by_cases h1 : t.k = 1
  · simp only [if_pos h1, Bool.and_eq_true, decide_eq_true_eq, noPlace_iff, noOper_iff, noTy_iff, len_nil] at h
    grind
  simp only [if_neg h1] at h
  by_cases h2 : t.k = 2
  · simp only [if_pos h2, Bool.and_eq_true, decide_eq_true_eq, noPlace_iff, noRv_iff, noTy_iff, len_nil] at h
    refine ⟨h.1.1.1.1.1.1.1, h.1.1.1.1.1.1.2, .inr ⟨h.1.1.1.1.2, .inl ⟨.inl h2, h.1.1.1.1.1.2, h.1.1.1.2, ⟨_, h.1.1.2, fun _ => h.1.2⟩, fun e => by omega, h.2⟩⟩⟩
  simp only [if_neg h2] at h
  by_cases h3 : t.k = 3
  · simp only [if_pos h3, Bool.and_eq_true, decide_eq_true_eq, noPlace_iff, noRv_iff, noTy_iff, len_nil] at h
    refine ⟨h.1.1.1.1.1.1.1, h.1.1.1.1.1.1.2, .inr ⟨h.1.1.1.1.2, .inl ⟨.inr h3, h.1.1.1.1.1.2, h.1.1.1.2, ⟨_, h.1.1.2, fun e => by omega⟩, fun _ => h.1.2, h.2⟩⟩⟩
  simp only [if_neg h3] at h
  by_cases h4 : t.k = 4
  · simp only [if_pos h4] at h
    split at h
    · cases h
    · rename_i hn
      simp only [not_or, Classical.not_not, noRv_iff, noTy_iff, noOper_iff, len_nil] at hn
      simp only [Bool.and_true, List.all_eq_true, Bool.and_eq_true, Bool.or_eq_true, decide_eq_true_eq] at h
      obtain ⟨⟨⟨⟨⟨⟨a1, a2⟩, a3⟩, a4⟩, a5⟩, a6⟩, a7⟩ := hn
      exact ⟨a1, a2, .inr ⟨a4, .inr ⟨a6, a7, .inl ⟨h4, a3, a5, _, h⟩⟩⟩⟩
  simp only [if_neg h4] at h
  by_cases h567 : t.k = 5 ∨ t.k = 6 ∨ t.k = 7
  · have hv : (if t.k = 5 then true else if t.k = 6 then true else decide (t.k = 7)) = true := by rcases h567 with e | e | e <;> rw [e] <;> decide
    rw [hv, if_pos rfl] at h
    simp only [Bool.and_eq_true, decide_eq_true_eq, noPlace_iff, noRv_iff, noTy_iff, len_nil] at h
    refine ⟨h.1.1.1.1.1.1.1, h.1.1.1.1.1.1.2, .inr ⟨h.1.1.1.1.2, .inr ⟨h.1.1.2, h.1.2, .inr ⟨h.2, .inl ⟨h567, h.1.1.1.1.1.2, h.1.1.1.2⟩⟩⟩⟩⟩
  · have hv : (if t.k = 5 then true else if t.k = 6 then true else decide (t.k = 7)) = false := by rw [if_neg (by omega), if_neg (by omega), decide_eq_false (by omega)]
    rw [hv] at h
    simp only [Bool.false_eq_true, if_false] at h
    by_cases h8 : t.k = 8
    · simp only [if_pos h8, Bool.and_eq_true, decide_eq_true_eq, noOper_iff, noRv_iff, noTy_iff, len_nil] at h
      refine ⟨h.1.1.1.1.1.1.1, h.1.1.1.1.1.1.2, .inr ⟨h.1.1.1.1.2, .inr ⟨h.1.1.2, h.1.2, .inr ⟨h.2, .inr ⟨h8, h.1.1.1.1.1.2, h.1.1.1.2⟩⟩⟩⟩⟩
    · rw [if_neg h8] at h
      cases h

theorem sx_0 {t : StmtD} {n : Nat} (h : t.k = 0) : stT t n = tabsT n ++ ([108, 101, 116] ++ (32 :: (t.name ++ (58 :: 32 :: (tyT t.ty ++ (32 :: 61 :: 32 :: (setT t.rv ++ 59 :: [10]))))))) := by
  obtain ⟨k, at_, name, ty, p, rv, op, then_, else_, arms⟩ := t
  dsimp only at h
  rw [stT]; simp [h, lineT]
theorem sx_1 {t : StmtD} {n : Nat} (h : t.k = 1) : stT t n = tabsT n ++ (plT t.p ++ (32 :: 61 :: 32 :: (setT t.rv ++ 59 :: [10]))) := by
  obtain ⟨k, at_, name, ty, p, rv, op, then_, else_, arms⟩ := t
  dsimp only at h
  rw [stT]; simp [h, lineT]
theorem sx_2 {t : StmtD} {n : Nat} (h : t.k = 2) : stT t n = tabsT n ++ ([105, 102] ++ (32 :: (opT t.op ++ (32 :: 123 :: 10 :: (blT t.then_ n ++ (tabsT n ++ 125 :: (if t.else_.length = 0 then [10] else [32, 101, 108, 115, 101, 32, 123, 10] ++ (blT t.else_ n ++ (tabsT n ++ 125 :: [10]))))))))) := by
  obtain ⟨k, at_, name, ty, p, rv, op, then_, else_, arms⟩ := t
  dsimp only at h
  rw [stT]; simp only [h]
  by_cases he : else_.length = 0
  · simp [he, lineT]
  · rw [if_neg he, if_neg he]; simp [lineT]
theorem sx_3 {t : StmtD} {n : Nat} (h : t.k = 3) : stT t n = tabsT n ++ ([119, 104, 105, 108, 101] ++ (32 :: (opT t.op ++ (32 :: 123 :: 10 :: (blT t.then_ n ++ (tabsT n ++ 125 :: [10])))))) := by
  obtain ⟨k, at_, name, ty, p, rv, op, then_, else_, arms⟩ := t
  dsimp only at h
  rw [stT]; simp [h, lineT]
theorem sx_4 {t : StmtD} {n : Nat} (h : t.k = 4) : stT t n = tabsT n ++ ([109, 97, 116, 99, 104] ++ (32 :: (plT t.p ++ (32 :: 123 :: 10 :: (arT t.arms n ++ (tabsT n ++ 125 :: [10])))))) := by
  obtain ⟨k, at_, name, ty, p, rv, op, then_, else_, arms⟩ := t
  dsimp only at h
  rw [stT]; simp [h, lineT]
theorem sx_5 {t : StmtD} {n : Nat} (h : t.k = 5) : stT t n = tabsT n ++ ([121, 105, 101, 108, 100] ++ (32 :: (opT t.op ++ 59 :: [10]))) := by
  obtain ⟨k, at_, name, ty, p, rv, op, then_, else_, arms⟩ := t
  dsimp only at h
  rw [stT]; simp [h, lineT]
theorem sx_6 {t : StmtD} {n : Nat} (h : t.k = 6) : stT t n = tabsT n ++ ([114, 101, 116, 117, 114, 110] ++ (32 :: (opT t.op ++ 59 :: [10]))) := by
  obtain ⟨k, at_, name, ty, p, rv, op, then_, else_, arms⟩ := t
  dsimp only at h
  rw [stT]; simp [h, lineT]
theorem sx_7 {t : StmtD} {n : Nat} (h : t.k = 7) : stT t n = tabsT n ++ ([112, 114, 105, 110, 116] ++ (32 :: (opT t.op ++ 59 :: [10]))) := by
  obtain ⟨k, at_, name, ty, p, rv, op, then_, else_, arms⟩ := t
  dsimp only at h
  rw [stT]; simp [h, lineT]
theorem sx_8 {t : StmtD} {n : Nat} (h : t.k = 8) : stT t n = tabsT n ++ ([100, 114, 111, 112] ++ (32 :: (plT t.p ++ 59 :: [10]))) := by
  obtain ⟨k, at_, name, ty, p, rv, op, then_, else_, arms⟩ := t
  dsimp only at h
  rw [stT]; simp [h, lineT]

def stTag (s : List UInt8) : Int :=
  if wd s = [108, 101, 116] then 0 else if wd s = [105, 102] then 2 else if wd s = [119, 104, 105, 108, 101] then 3 else if wd s = [109, 97, 116, 99, 104] then 4 else if wd s = [121, 105, 101, 108, 100] then 5
  else if wd s = [114, 101, 116, 117, 114, 110] then 6 else if wd s = [112, 114, 105, 110, 116] then 7 else if wd s = [100, 114, 111, 112] then 8 else 1
theorem st_tag {k : Nat} {t : StmtD} {d : Int} {n : Nat} (h : rValidStmt_f k t d = true) (r : List UInt8) : ∃ s, stT t n ++ r = tabsT n ++ s ∧ stTag s = t.k ∧ s.head? ≠ some 125 ∧ s.head? ≠ some 9 := by
  cases k with
  | zero => cases h
  | succ k =>
    rw [rValidStmt_f] at h
    have kw : ∀ (w s : List UInt8), (∀ x ∈ w, isN x = true) → wd (w ++ (32 :: s)) = w := fun w s hw => wd_kw hw s
    rcases st_cases h with ⟨hk, _⟩ | ⟨_, _, ⟨hk, hp, _⟩ | ⟨_, ⟨hk | hk, _⟩ | ⟨_, _, ⟨hk, _⟩ | ⟨_, ⟨hk | hk | hk, _⟩ | ⟨hk, _⟩⟩⟩⟩⟩
    · rw [sx_0 hk, hk, List.append_assoc, app32]
      refine ⟨_, rfl, ?_, by simp, by simp⟩
      rw [stTag, kw _ _ (by decide +kernel)]; rfl
    · rw [sx_1 hk, hk, List.append_assoc, List.append_assoc, List.cons_append]
      have hs := small_kw (place_ok hp).1
      have hw := plT_wd hp (r := 32 :: (61 :: 32 :: (setT t.rv ++ 59 :: [10]) ++ r)) (Fo.cons (by decide +kernel))
      refine ⟨_, rfl, ?_, ?_, ?_⟩
      · rw [stTag, hw, if_neg (not_kw hs (by decide)), if_neg (not_kw hs (by decide)), if_neg (not_kw hs (by decide)), if_neg (not_kw hs (by decide)), if_neg (not_kw hs (by decide)), if_neg (not_kw hs (by decide)), if_neg (not_kw hs (by decide)), if_neg (not_kw hs (by decide))]
      all_goals
        intro hc
        have hh : ∀ (x : UInt8) (s : List UInt8), isN x = false → s.head? = some x → wd s = [] := fun x s hx hs => by
          cases s with
          | nil => rfl
          | cons y s =>
            have : y = x := by simpa using hs
            subst this
            simp [wd, List.takeWhile, hx]
        have := hh _ _ (by decide +kernel) hc
        rw [hw] at this
        exact word_ne (small_word (place_ok hp).1) this
    · rw [sx_2 hk, hk, List.append_assoc, app32]
      refine ⟨_, rfl, ?_, by simp, by simp⟩
      rw [stTag, kw _ _ (by decide +kernel)]; rfl
    · rw [sx_3 hk, hk, List.append_assoc, app32]
      refine ⟨_, rfl, ?_, by simp, by simp⟩
      rw [stTag, kw _ _ (by decide +kernel)]; rfl
    · rw [sx_4 hk, hk, List.append_assoc, app32]
      refine ⟨_, rfl, ?_, by simp, by simp⟩
      rw [stTag, kw _ _ (by decide +kernel)]; rfl
    · rw [sx_5 hk, hk, List.append_assoc, app32]
      refine ⟨_, rfl, ?_, by simp, by simp⟩
      rw [stTag, kw _ _ (by decide +kernel)]; rfl
    · rw [sx_6 hk, hk, List.append_assoc, app32]
      refine ⟨_, rfl, ?_, by simp, by simp⟩
      rw [stTag, kw _ _ (by decide +kernel)]; rfl
    · rw [sx_7 hk, hk, List.append_assoc, app32]
      refine ⟨_, rfl, ?_, by simp, by simp⟩
      rw [stTag, kw _ _ (by decide +kernel)]; rfl
    · rw [sx_8 hk, hk, List.append_assoc, app32]
      refine ⟨_, rfl, ?_, by simp, by simp⟩
      rw [stTag, kw _ _ (by decide +kernel)]; rfl

theorem tabs_succ (n : Nat) (s : List UInt8) : tabsT (n + 1) ++ s = tabsT n ++ (9 :: s) := by
  rw [tabsT, List.replicate_succ', List.append_assoc]; rfl
def BInj (k : Nat) : Prop := ∀ (k' : Nat) (l l' : List StmtD) (d d' : Int) (n : Nat) (r r' s s' : List UInt8), rValidBlock_f k l d = true → rValidBlock_f k' l' d' = true → wfR (l.map stmtC) → wfR (l'.map stmtC) →
  r = tabsT n ++ 125 :: s → r' = tabsT n ++ 125 :: s' → blT l n ++ r = blT l' n ++ r' → l.map stripS = l'.map stripS ∧ r = r'
def SInj (k : Nat) : Prop := ∀ (k' : Nat) (t t' : StmtD) (d d' : Int) (n : Nat) (r r' : List UInt8), rValidStmt_f k t d = true → rValidStmt_f k' t' d' = true → wfL (stmtC t) → wfL (stmtC t') →
  stT t n ++ r = stT t' n ++ r' → stripS t = stripS t' ∧ r = r'

theorem b_step (k : Nat) (hS : SInj k) : BInj (k + 1) := by
  intro k'
  cases k' with
  | zero => intro l l' d d' n r r' s s' h h'; cases h'
  | succ k' =>
    intro l
    induction l with
    | nil =>
      intro l' d d' n r r' s s' h h' hw hw' hr hr' e
      cases l' with
      | nil => exact ⟨rfl, by simpa [blT] using e⟩
      | cons t' l' =>
        exfalso
        rw [rB_eq, Bool.and_eq_true, List.all_eq_true] at h'
        obtain ⟨q, e1, _, _, _⟩ := st_tag (n := n + 1) (h'.2 t' (by simp)) (blT l' n ++ r')
        rw [blT, blT, List.append_assoc, e1, hr, tabs_succ] at e
        simp at e
    | cons t l ih =>
      intro l' d d' n r r' s s' h h' hw hw' hr hr' e
      rw [rB_eq, Bool.and_eq_true, List.all_eq_true] at h
      cases l' with
      | nil =>
        exfalso
        obtain ⟨q, e1, _, _, _⟩ := st_tag (n := n + 1) (h.2 t (by simp)) (blT l n ++ r)
        rw [blT, blT, List.append_assoc, e1, hr', tabs_succ] at e
        simp at e
      | cons t' l' =>
        rw [rB_eq, Bool.and_eq_true, List.all_eq_true] at h'
        simp only [List.map_cons, wfR] at hw hw'
        rw [blT, blT, List.append_assoc, List.append_assoc] at e
        obtain ⟨e1, e2⟩ := hS k' t t' _ _ (n + 1) _ _ (h.2 t (by simp)) (h'.2 t' (by simp)) hw.1 hw'.1 e
        obtain ⟨e3, e4⟩ := ih l' d d' n r r' s s' (by rw [rB_eq, Bool.and_eq_true, List.all_eq_true]; exact ⟨h.1, fun x hx => h.2 x (by simp [hx])⟩)
          (by rw [rB_eq, Bool.and_eq_true, List.all_eq_true]; exact ⟨h'.1, fun x hx => h'.2 x (by simp [hx])⟩) hw.2 hw'.2 hr hr' e2
        exact ⟨by rw [List.map_cons, List.map_cons, e1, e3], e4⟩

theorem am_form (a : ArmD) (n : Nat) : amT a n = tabsT (n + 1) ++ (a.variant ++ (bindT a.bind ++ (32 :: 61 :: 62 :: 32 :: 123 :: 10 :: (blT a.body (n + 1) ++ (tabsT (n + 1) ++ 125 :: [10]))))) := by
  obtain ⟨v, b, body⟩ := a
  rw [amT]; simp [lineT]
theorem wf_arm {a : ArmD} (h : wfL (armC a)) : wfR (a.body.map stmtC) := by
  simp only [armC_eq, wfL, wfV] at h
  exact h.2.2.1
theorem bind_inj {b b' : List UInt8} (h : b = [] ∨ rSmall b = true) (h' : b' = [] ∨ rSmall b' = true) {r r' : List UInt8} (e : bindT b ++ 32 :: r = bindT b' ++ 32 :: r') : b = b' ∧ r = r' := by
  unfold bindT at e
  split at e <;> split at e
  · rename_i h1 h2
    exact ⟨by rw [h1, h2], (List.cons.inj e).2⟩
  · simp at e
  · simp at e
  · rename_i h1 h2
    simp only [List.append_assoc, List.cons_append, List.nil_append, List.cons.injEq, true_and] at e
    obtain ⟨e1, e2⟩ := word_inj (word_N (small_word (h.resolve_left h1))) (word_N (small_word (h'.resolve_left h2))) (Fo.cons (by decide +kernel)) (Fo.cons (by decide +kernel)) e
    simp at e2
    exact ⟨e1, e2⟩
theorem bind_Fo (b r : List UInt8) : Fo isN (bindT b ++ 32 :: r) := by
  unfold bindT
  split <;> exact Fo.cons (by decide +kernel)
theorem a_inj (k k' : Nat) (hB : BInj k) : ∀ (l l' : List ArmD) (w w' : Int) (n : Nat) (r r' s s' : List UInt8), (∀ a ∈ l, rGreat a.variant = true ∧ (a.bind = [] ∨ rSmall a.bind = true) ∧ rValidBlock_f k a.body w = true) →
    (∀ a ∈ l', rGreat a.variant = true ∧ (a.bind = [] ∨ rSmall a.bind = true) ∧ rValidBlock_f k' a.body w' = true) → wfR (l.map armC) → wfR (l'.map armC) →
    r = tabsT n ++ 125 :: s → r' = tabsT n ++ 125 :: s' → arT l n ++ r = arT l' n ++ r' → l.map stripM = l'.map stripM ∧ r = r'
  | [], [], w, w', n, r, r', s, s', _, _, _, _, _, _, e => ⟨rfl, by simpa [arT] using e⟩
  | [], a :: l', w, w', n, r, r', s, s', _, _, _, _, hr, _, e => by
    exfalso
    rw [arT, arT, am_form, hr] at e
    simp only [List.append_assoc, tabs_succ] at e
    simp at e
  | a :: l, [], w, w', n, r, r', s, s', _, _, _, _, _, hr', e => by
    exfalso
    rw [arT, arT, am_form, hr'] at e
    simp only [List.append_assoc, tabs_succ] at e
    simp at e
  | a :: l, a' :: l', w, w', n, r, r', s, s', h, h', hw, hw', hr, hr', e => by
    obtain ⟨g1, g2, g3⟩ := h a (by simp)
    obtain ⟨g1', g2', g3'⟩ := h' a' (by simp)
    simp only [List.map_cons, wfR] at hw hw'
    rw [arT, arT, am_form, am_form] at e
    simp only [List.append_assoc, List.cons_append, List.nil_append] at e
    have e := List.append_cancel_left e
    obtain ⟨e1, e2⟩ := word_inj (word_N (great_word g1)) (word_N (great_word g1')) (bind_Fo _ _) (bind_Fo _ _) e
    obtain ⟨e3, e4⟩ := bind_inj g2 g2' e2
    simp only [List.cons.injEq, true_and] at e4
    obtain ⟨e5, e6⟩ := hB k' a.body a'.body w w' (n + 1) _ _ _ _ g3 g3' (wf_arm hw.1) (wf_arm hw'.1) rfl rfl e4
    have e7 := List.append_cancel_left e6
    simp only [List.cons.injEq, true_and] at e7
    obtain ⟨e8, e9⟩ := a_inj k k' hB l l' w w' n r r' s s' (fun x hx => h x (by simp [hx])) (fun x hx => h' x (by simp [hx])) hw.2 hw'.2 hr hr' e7
    exact ⟨by rw [List.map_cons, List.map_cons, e8, (stripM_iff a a').2 ⟨e1, e3, e5⟩], e9⟩

theorem f32O (r : List UInt8) : Fo isO (32 :: r) := Fo.cons (by decide +kernel)
theorem s_step (k : Nat) (hB : BInj k) : SInj (k + 1) := by
  intro k'
  cases k' with
  | zero => intro t t' d d' n r r' h h'; cases h'
  | succ k' =>
    intro t t' d d' n r r' h h' hw hw' e
    have hk : t.k = t'.k := by
      obtain ⟨s, e1, e2, _⟩ := st_tag (n := n) h r
      obtain ⟨s', e1', e2', _⟩ := st_tag (n := n) h' r'
      have : s = s' := List.append_cancel_left (by rw [← e1, e, e1'])
      rw [← e2, ← e2', this]
    obtain ⟨w1, w2, w3, w4, w5, w6, _⟩ := stmt_parts t hw
    obtain ⟨w1', w2', w3', w4', w5', w6', _⟩ := stmt_parts t' hw'
    rw [rValidStmt_f] at h h'
    have fin : t.name = t'.name → t.ty = t'.ty → t.p = t'.p → t.rv = t'.rv → t.op = t'.op → t.then_.map stripS = t'.then_.map stripS → t.else_.map stripS = t'.else_.map stripS → t.arms.map stripM = t'.arms.map stripM → r = r' → stripS t = stripS t' ∧ r = r' :=
      fun a b c d e f g h i => ⟨(stripS_iff t t').2 ⟨hk, a, b, c, d, e, f, g, h⟩, i⟩
    rcases st_cases h with ⟨q, a1, a2, a3, a4, a5, a6, a7, a8⟩ | ⟨b1, b2, ⟨q, a1, a2, a3, a4, a5, a6⟩ | ⟨b3, ⟨q, a1, a2, ⟨z, a3, a4⟩, a5, a6⟩ | ⟨b4, b5, ⟨q, a1, a2, z, a3⟩ | ⟨b6, ⟨q, a1, a2⟩ | ⟨q, a1, a2⟩⟩⟩⟩⟩ <;>
      rcases st_cases h' with ⟨q', a1', a2', a3', a4', a5', a6', a7', a8'⟩ | ⟨b1', b2', ⟨q', a1', a2', a3', a4', a5', a6'⟩ | ⟨b3', ⟨q', a1', a2', ⟨z', a3', a4'⟩, a5', a6'⟩ | ⟨b4', b5', ⟨q', a1', a2', z', a3'⟩ | ⟨b6', ⟨q', a1', a2'⟩ | ⟨q', a1', a2'⟩⟩⟩⟩⟩ <;>
      try (exfalso; omega)
    · rw [sx_0 q, sx_0 q'] at e
      simp only [List.append_assoc, List.cons_append, List.nil_append] at e
      have e := List.append_cancel_left e
      simp only [List.cons.injEq, true_and] at e
      obtain ⟨e1, e2⟩ := word_inj (word_N (small_word a1)) (word_N (small_word a1')) (Fo.cons (by decide +kernel)) (Fo.cons (by decide +kernel)) e
      simp only [List.cons.injEq, true_and] at e2
      obtain ⟨e3, e4⟩ := ty_inj _ _ _ _ _ _ _ _ a2 a2' (f32O _).ofO (f32O _).ofO e2
      simp only [List.cons.injEq, true_and] at e4
      obtain ⟨e5, e6⟩ := rv_inj (rv_ok a3 (wf_rv w3)) (rv_ok a3' (wf_rv w3')) e4
      exact fin e1 e3 (by rw [a4, a4']) e5 (by rw [a5, a5']) (by rw [a6, a6']) (by rw [a7, a7']) (by rw [a8, a8']) (List.cons.inj e6).2
    · rw [sx_1 q, sx_1 q'] at e
      simp only [List.append_assoc, List.cons_append, List.nil_append] at e
      have e := List.append_cancel_left e
      obtain ⟨e1, e2⟩ := pl_tail a1 a1' (f32O _) (f32O _) e
      simp only [List.cons.injEq, true_and] at e2
      obtain ⟨e5, e6⟩ := rv_inj (rv_ok a2 (wf_rv w3)) (rv_ok a2' (wf_rv w3')) e2
      exact fin (by rw [b1, b1']) (by rw [b2, b2']) e1 e5 (by rw [a3, a3']) (by rw [a4, a4']) (by rw [a5, a5']) (by rw [a6, a6']) (List.cons.inj e6).2
    · rcases q with q | q
      · rw [sx_2 q, sx_2 (hk ▸ q)] at e
        simp only [List.append_assoc, List.cons_append, List.nil_append] at e
        have e := List.append_cancel_left e
        simp only [List.cons.injEq, true_and] at e
        obtain ⟨e1, e2⟩ := opT_inj (oper_ok a2 (wf_oper w2)) (oper_ok a2' (wf_oper w2')) (f32O _) (f32O _) e
        simp only [List.cons.injEq, true_and] at e2
        obtain ⟨e3, e4⟩ := hB k' _ _ _ _ n _ _ _ _ a3 a3' w4 w4' rfl rfl e2
        have e5 := List.append_cancel_left e4
        simp only [List.cons.injEq, true_and] at e5
        by_cases c : t.else_.length = 0
        · by_cases c' : t'.else_.length = 0
          · rw [if_pos c, if_pos c'] at e5
            exact fin (by rw [b1, b1']) (by rw [b2, b2']) (by rw [a1, a1']) (by rw [b3, b3']) e1 e3 (by rw [List.length_eq_zero_iff.1 c, List.length_eq_zero_iff.1 c']) (by rw [a6, a6']) (by simpa using e5)
          · rw [if_pos c, if_neg c'] at e5; simp at e5
        · by_cases c' : t'.else_.length = 0
          · rw [if_neg c, if_pos c'] at e5; simp at e5
          · rw [if_neg c, if_neg c'] at e5
            simp only [List.append_assoc, List.cons_append, List.nil_append, List.cons.injEq, true_and] at e5
            obtain ⟨e6, e7⟩ := hB k' _ _ _ _ n _ _ _ _ (a4 q) (a4' (hk ▸ q)) w5 w5' rfl rfl e5
            have e8 := List.append_cancel_left e7
            simp only [List.cons.injEq, true_and] at e8
            exact fin (by rw [b1, b1']) (by rw [b2, b2']) (by rw [a1, a1']) (by rw [b3, b3']) e1 e3 e6 (by rw [a6, a6']) e8
      · rw [sx_3 q, sx_3 (hk ▸ q)] at e
        simp only [List.append_assoc, List.cons_append, List.nil_append] at e
        have e := List.append_cancel_left e
        simp only [List.cons.injEq, true_and] at e
        obtain ⟨e1, e2⟩ := opT_inj (oper_ok a2 (wf_oper w2)) (oper_ok a2' (wf_oper w2')) (f32O _) (f32O _) e
        simp only [List.cons.injEq, true_and] at e2
        obtain ⟨e3, e4⟩ := hB k' _ _ _ _ n _ _ _ _ a3 a3' w4 w4' rfl rfl e2
        have e5 := List.append_cancel_left e4
        simp only [List.cons.injEq, true_and] at e5
        exact fin (by rw [b1, b1']) (by rw [b2, b2']) (by rw [a1, a1']) (by rw [b3, b3']) e1 e3 (by rw [a5 q, a5' (hk ▸ q)]) (by rw [a6, a6']) e5
    · rw [sx_4 q, sx_4 q'] at e
      simp only [List.append_assoc, List.cons_append, List.nil_append] at e
      have e := List.append_cancel_left e
      simp only [List.cons.injEq, true_and] at e
      obtain ⟨e1, e2⟩ := pl_tail a1 a1' (f32O _) (f32O _) e
      simp only [List.cons.injEq, true_and] at e2
      obtain ⟨e3, e4⟩ := a_inj k k' hB _ _ _ _ n _ _ _ _ a3 a3' w6 w6' rfl rfl e2
      have e5 := List.append_cancel_left e4
      simp only [List.cons.injEq, true_and] at e5
      exact fin (by rw [b1, b1']) (by rw [b2, b2']) e1 (by rw [b3, b3']) (by rw [a2, a2']) (by rw [b4, b4']) (by rw [b5, b5']) e3 e5
    · have e1 : t.op = t'.op ∧ (59 :: 10 :: r : List UInt8) = 59 :: 10 :: r' := by
        rcases q with q | q | q
        · rw [sx_5 q, sx_5 (hk ▸ q)] at e
          simp only [List.append_assoc, List.cons_append, List.nil_append] at e
          have e := List.append_cancel_left e
          simp only [List.cons.injEq, true_and] at e
          exact opT_inj (oper_ok a2 (wf_oper w2)) (oper_ok a2' (wf_oper w2')) (fo59 _) (fo59 _) e
        · rw [sx_6 q, sx_6 (hk ▸ q)] at e
          simp only [List.append_assoc, List.cons_append, List.nil_append] at e
          have e := List.append_cancel_left e
          simp only [List.cons.injEq, true_and] at e
          exact opT_inj (oper_ok a2 (wf_oper w2)) (oper_ok a2' (wf_oper w2')) (fo59 _) (fo59 _) e
        · rw [sx_7 q, sx_7 (hk ▸ q)] at e
          simp only [List.append_assoc, List.cons_append, List.nil_append] at e
          have e := List.append_cancel_left e
          simp only [List.cons.injEq, true_and] at e
          exact opT_inj (oper_ok a2 (wf_oper w2)) (oper_ok a2' (wf_oper w2')) (fo59 _) (fo59 _) e
      exact fin (by rw [b1, b1']) (by rw [b2, b2']) (by rw [a1, a1']) (by rw [b3, b3']) e1.1 (by rw [b4, b4']) (by rw [b5, b5']) (by rw [b6, b6']) (by simpa using e1.2)
    · rw [sx_8 q, sx_8 q'] at e
      simp only [List.append_assoc, List.cons_append, List.nil_append] at e
      have e := List.append_cancel_left e
      simp only [List.cons.injEq, true_and] at e
      obtain ⟨e1, e2⟩ := pl_tail a1 a1' (fo59 _) (fo59 _) e
      simp only [List.cons.injEq, true_and] at e2
      exact fin (by rw [b1, b1']) (by rw [b2, b2']) e1 (by rw [b3, b3']) (by rw [a2, a2']) (by rw [b4, b4']) (by rw [b5, b5']) (by rw [b6, b6']) e2

theorem bs_inj : ∀ k, BInj k ∧ SInj k
  | 0 => ⟨fun _ _ _ _ _ _ _ _ _ _ h => (by cases h), fun _ _ _ _ _ _ _ _ h => (by cases h)⟩
  | k + 1 => ⟨b_step k (bs_inj k).2, s_step k (bs_inj k).1⟩
end Go.Proofs.Tryz
end
section
namespace Go.Proofs.Tryz
open Go Go.AM
set_option maxRecDepth 10000
set_option linter.unusedVariables false

theorem len_strip (l : List StmtD) : (stripL l).length = l.length := by rw [stripL_map, List.length_map]
mutual
theorem stT_strip : ∀ (t : StmtD) (n : Nat), stT (stripS t) n = stT t n
  | ⟨k, at_, name, ty, p, rv, op, then_, else_, arms⟩, n => by
    rw [stripS, stT, stT, blT_strip then_ n, blT_strip else_ n, arT_strip arms n, len_strip]
theorem blT_strip : ∀ (l : List StmtD) (n : Nat), blT (stripL l) n = blT l n
  | [], n => by rw [stripL]
  | t :: l, n => by rw [stripL, blT, blT, stT_strip t (n + 1), blT_strip l n]
theorem amT_strip : ∀ (a : ArmD) (n : Nat), amT (stripM a) n = amT a n
  | ⟨v, b, body⟩, n => by rw [stripM, amT, amT, blT_strip body (n + 1)]
theorem arT_strip : ∀ (l : List ArmD) (n : Nat), arT (stripA l) n = arT l n
  | [], n => by rw [stripA]
  | t :: l, n => by rw [stripA, arT, arT, amT_strip t n, arT_strip l n]
end
theorem stx_strip {a b : StructD} (h : stripSt a = stripSt b) : stxT a = stxT b := by
  obtain ⟨h1, h2, h3⟩ := (stripSt_iff a b).1 h
  unfold stxT; rw [h1, h2, h3]
theorem enm_strip {a b : EnumD} (h : stripEn a = stripEn b) : enmT a = enmT b := by
  obtain ⟨h1, h2⟩ := (stripEn_iff a b).1 h
  unfold enmT; rw [h1, h2]
theorem fn_strip {a b : FnD} (h : stripFn a = stripFn b) : fnT a = fnT b := by
  obtain ⟨h1, h2, h3⟩ := (stripFn_iff a b).1 h
  unfold fnT; rw [h1, h2, ← blT_strip a.body 0, ← blT_strip b.body 0, stripL_map, stripL_map, h3]
theorem map_strip {A B C : Type} {f : A → B} {g : A → C} (h : ∀ a b, f a = f b → g a = g b) : ∀ {l l' : List A}, l.map f = l'.map f → l.map g = l'.map g
  | [], [], _ => rfl
  | [], _ :: _, e => by cases e
  | _ :: _, [], e => by cases e
  | x :: l, y :: l', e => by
    simp only [List.map_cons, List.cons.injEq] at e
    rw [List.map_cons, List.map_cons, h x y e.1, map_strip h e.2]
theorem text_same {a b : SourceD} (h : SameD a b) : textS a = textS b := by
  obtain ⟨h1, h2, h3⟩ := h
  unfold textS
  rw [map_strip (g := stxT) (fun _ _ => stx_strip) h1, map_strip (g := enmT) (fun _ _ => enm_strip) h2, map_strip (g := fnT) (fun _ _ => fn_strip) h3]

def okF (f : FieldD) : Prop := rSmall f.name = true ∧ rValidTy f.ty 0 = true
theorem fld_inj (f g : FieldD) (r r' : List UInt8) (h : okF f) (h' : okF g) (hr : Fo isN r) (hr' : Fo isN r') (e : fldT f ++ r = fldT g ++ r') : f = g ∧ r = r' := by
  unfold fldT at e
  simp only [List.append_assoc, List.cons_append, List.nil_append] at e
  obtain ⟨e1, e2⟩ := word_inj (word_N (small_word h.1)) (word_N (small_word h'.1)) (Fo.cons (by decide +kernel)) (Fo.cons (by decide +kernel)) e
  simp only [List.cons.injEq, true_and] at e2
  obtain ⟨e3, e4⟩ := ty_inj _ _ _ _ _ _ _ _ h.2 h'.2 hr hr' e2
  exact ⟨(field_iff f g).2 ⟨e1, e3⟩, e4⟩
theorem word_head {s : List UInt8} (h : rWord s = true) (c : UInt8) (hc : isN c = false) (r : List UInt8) : ∃ x u, s ++ r = x :: u ∧ x ≠ c := by
  cases s with
  | nil => exact absurd rfl (word_ne h)
  | cons x s =>
    refine ⟨x, s ++ r, rfl, ?_⟩
    rintro rfl
    rw [word_N h x (by simp)] at hc
    cases hc
def okV (v : VariantD) : Prop := rGreat v.name = true ∧ (v.ty = ⟨0, [], []⟩ ∨ rValidTy v.ty 0 = true)
def isV (x : UInt8) : Bool := isN x || x == 40
theorem var_inj (f g : VariantD) (r r' : List UInt8) (h : okV f) (h' : okV g) (hr : Fo isV r) (hr' : Fo isV r') (e : varT f ++ r = varT g ++ r') : f = g ∧ r = r' := by
  have toN : ∀ {r : List UInt8}, Fo isV r → Fo isN r := fun h => h.mono fun x hx => by unfold isV; rw [hx]; rfl
  have hz : ∀ {v : VariantD}, okV v → (v.ty.k = 0 ↔ v.ty = ⟨0, [], []⟩) := fun {v} h => by
    constructor
    · intro hk
      rcases h.2 with h2 | h2
      · exact h2
      · unfold rValidTy at h2
        rcases ty_cases h2 with q | ⟨s, q, _⟩ | ⟨s, q, _⟩ | ⟨n, x, d', k', q, hn, _⟩ <;> rw [q] at hk <;> dsimp only at hk <;> omega
    · intro h; rw [h]
  unfold varT at e
  by_cases c : f.ty.k = 0
  · by_cases c' : g.ty.k = 0
    · rw [if_pos c, if_pos c'] at e
      obtain ⟨e1, e2⟩ := word_inj (word_N (great_word h.1)) (word_N (great_word h'.1)) (toN hr) (toN hr') e
      exact ⟨(variant_iff f g).2 ⟨e1, by rw [(hz h).1 c, (hz h').1 c']⟩, e2⟩
    · rw [if_pos c, if_neg c'] at e
      simp only [List.append_assoc, List.cons_append, List.nil_append] at e
      obtain ⟨e1, e2⟩ := word_inj (word_N (great_word h.1)) (word_N (great_word h'.1)) (toN hr) (Fo.cons (by decide +kernel)) e
      have := hr 40 (by rw [e2]; rfl)
      exact absurd this (by decide +kernel)
  · by_cases c' : g.ty.k = 0
    · rw [if_neg c, if_pos c'] at e
      simp only [List.append_assoc, List.cons_append, List.nil_append] at e
      obtain ⟨e1, e2⟩ := word_inj (word_N (great_word h.1)) (word_N (great_word h'.1)) (Fo.cons (by decide +kernel)) (toN hr') e
      have := hr' 40 (by rw [← e2]; rfl)
      exact absurd this (by decide +kernel)
    · rw [if_neg c, if_neg c'] at e
      simp only [List.append_assoc, List.cons_append, List.nil_append] at e
      obtain ⟨e1, e2⟩ := word_inj (word_N (great_word h.1)) (word_N (great_word h'.1)) (Fo.cons (by decide +kernel)) (Fo.cons (by decide +kernel)) e
      simp only [List.cons.injEq, true_and] at e2
      have g1 := h.2.resolve_left fun q => c ((hz h).2 q)
      have g2 := h'.2.resolve_left fun q => c' ((hz h').2 q)
      obtain ⟨e3, e4⟩ := ty_inj _ _ _ _ _ _ _ _ g1 g2 (Fo.cons (by decide +kernel)) (Fo.cons (by decide +kernel)) e2
      exact ⟨(variant_iff f g).2 ⟨e1, e3⟩, (List.cons.inj e4).2⟩
theorem fld_head {f : FieldD} (h : okF f) (c : UInt8) (hc : isN c = false) : ∃ x s, fldT f = x :: s ∧ x ≠ c := by
  obtain ⟨x, u, e, hx⟩ := word_head (small_word h.1) c hc ([58, 32] ++ tyT f.ty)
  exact ⟨x, u, by rw [← e, fldT]; simp, hx⟩
theorem var_head {f : VariantD} (h : okV f) (c : UInt8) (hc : isN c = false) : ∃ x s, varT f = x :: s ∧ x ≠ c := by
  unfold varT
  split
  · obtain ⟨x, u, e, hx⟩ := word_head (great_word h.1) c hc []
    exact ⟨x, u, by rw [← e]; simp, hx⟩
  · obtain ⟨x, u, e, hx⟩ := word_head (great_word h.1) c hc ([40] ++ tyT f.ty ++ [41])
    exact ⟨x, u, by rw [← e]; simp, hx⟩
theorem br_inj {A : Type} {f : A → List UInt8} {V : A → Prop} {F : UInt8 → Bool} (h44 : F 44 = false) (hc : F 32 = false)
    (hinj : ∀ a b r r', V a → V b → Fo F r → Fo F r' → f a ++ r = f b ++ r' → a = b ∧ r = r') (hh : ∀ a, V a → ∃ x s, f a = x :: s ∧ x ≠ 32)
    {l l' : List A} {r r' : List UInt8} (h : ∀ a ∈ l, V a) (h' : ∀ a ∈ l', V a) (e : brT (joinT f l) ++ 10 :: r = brT (joinT f l') ++ 10 :: r') : l = l' ∧ r = r' := by
  have ne : ∀ {l : List A}, (∀ a ∈ l, V a) → l ≠ [] → joinT f l ≠ [] := fun {l} h hl => by
    cases l with
    | nil => exact absurd rfl hl
    | cons x l =>
      obtain ⟨y, s, ey, _⟩ := hh x (h x (by simp))
      cases l with
      | nil => rw [joinT_one, ey]; simp
      | cons z l => rw [joinT_two, ey]; simp
  unfold brT at e
  by_cases c : l = []
  · by_cases c' : l' = []
    · subst c; subst c'
      exact ⟨rfl, by simpa using e⟩
    · subst c
      rw [joinT_nil, if_pos rfl, if_neg (ne h' c')] at e
      simp at e
  · by_cases c' : l' = []
    · subst c'
      rw [joinT_nil, if_neg (ne h c), if_pos rfl] at e
      simp at e
    · rw [if_neg (ne h c), if_neg (ne h' c')] at e
      simp only [List.append_assoc, List.cons_append, List.nil_append, List.cons.injEq, true_and] at e
      obtain ⟨e1, e2⟩ := join_inj h44 hc (by decide) hinj hh h h' e
      simp only [List.cons.injEq, true_and] at e2
      exact ⟨e1, e2⟩

def okSt (x : StructD) : Prop := rGreat x.name = true ∧ ∀ f ∈ x.fields, okF f
def okEn (x : EnumD) : Prop := rGreat x.name = true ∧ ∀ f ∈ x.variants, okV f
def okFn (x : FnD) : Prop := (rSmall x.name = true ∧ ∀ f ∈ x.params, okF f) ∧ rValidBlock x.body 1 = true ∧ wfR (x.body.map stmtC)
theorem stx_form (x : StructD) : stxT x = (if x.drop_ = true then [100, 114, 111, 112] ++ (32 :: ([115, 116, 114, 117, 99, 116] ++ (32 :: (x.name ++ (32 :: (brT (joinT fldT x.fields) ++ [10])))))) else [115, 116, 114, 117, 99, 116] ++ (32 :: (x.name ++ (32 :: (brT (joinT fldT x.fields) ++ [10]))))) := by
  unfold stxT
  split <;> simp [lineT, tabsT]
theorem enm_form (x : EnumD) : enmT x = [101, 110, 117, 109] ++ (32 :: (x.name ++ (32 :: (brT (joinT varT x.variants) ++ [10])))) := by
  simp [enmT, lineT, tabsT]
theorem fn_form (x : FnD) : fnT x = [99, 111] ++ (32 :: (x.name ++ (40 :: (joinT fldT x.params ++ (41 :: 32 :: 123 :: 10 :: (blT x.body 0 ++ (125 :: [10]))))))) := by
  simp [fnT, lineT, tabsT]
def soTag (s : List UInt8) : Nat := if wd s = [100, 114, 111, 112] then 1 else if wd s = [115, 116, 114, 117, 99, 116] then 2 else if wd s = [101, 110, 117, 109] then 3 else if wd s = [99, 111] then 4 else 0
theorem tag_st (x : StructD) (r : List UInt8) : soTag (stxT x ++ r) = if x.drop_ = true then 1 else 2 := by
  rw [stx_form]
  split
  · rw [app32, soTag, wd_kw (by decide +kernel)]; rfl
  · rw [app32, soTag, wd_kw (by decide +kernel)]; rfl
theorem tag_en (x : EnumD) (r : List UInt8) : soTag (enmT x ++ r) = 3 := by
  rw [enm_form, app32, soTag, wd_kw (by decide +kernel)]; rfl
theorem tag_fn (x : FnD) (r : List UInt8) : soTag (fnT x ++ r) = 4 := by
  rw [fn_form, app32, soTag, wd_kw (by decide +kernel)]; rfl
theorem tag_nil : soTag [] = 0 := by decide
theorem stx_inj {x y : StructD} {r r' : List UInt8} (h : okSt x) (h' : okSt y) (e : stxT x ++ r = stxT y ++ r') : stripSt x = stripSt y ∧ r = r' := by
  have ht : x.drop_ = y.drop_ := by
    have h1 := tag_st x r
    have h2 := tag_st y r'
    rw [e] at h1
    rw [h1] at h2
    cases hx : x.drop_ <;> cases hy : y.drop_ <;> rw [hx, hy] at h2 <;> simp at h2 <;> rfl
  have key : x.name ++ (32 :: (brT (joinT fldT x.fields) ++ [10])) ++ r = y.name ++ (32 :: (brT (joinT fldT y.fields) ++ [10])) ++ r' := by
    rw [stx_form, stx_form, ← ht] at e
    cases hx : x.drop_ <;> rw [hx] at e <;> simp at e ⊢ <;> exact e
  simp only [List.append_assoc, List.cons_append, List.nil_append] at key
  obtain ⟨e1, e2⟩ := word_inj (word_N (great_word h.1)) (word_N (great_word h'.1)) (Fo.cons (by decide +kernel)) (Fo.cons (by decide +kernel)) key
  simp only [List.cons.injEq, true_and] at e2
  obtain ⟨e3, e4⟩ := br_inj (F := isN) (by decide +kernel) (by decide +kernel) fld_inj (fun a ha => fld_head ha 32 (by decide +kernel)) h.2 h'.2 e2
  exact ⟨(stripSt_iff x y).2 ⟨e1, ht, e3⟩, e4⟩
theorem enm_inj {x y : EnumD} {r r' : List UInt8} (h : okEn x) (h' : okEn y) (e : enmT x ++ r = enmT y ++ r') : stripEn x = stripEn y ∧ r = r' := by
  rw [enm_form, enm_form] at e
  simp only [List.append_assoc, List.cons_append, List.nil_append, List.cons.injEq, true_and] at e
  obtain ⟨e1, e2⟩ := word_inj (word_N (great_word h.1)) (word_N (great_word h'.1)) (Fo.cons (by decide +kernel)) (Fo.cons (by decide +kernel)) e
  simp only [List.cons.injEq, true_and] at e2
  obtain ⟨e3, e4⟩ := br_inj (F := isV) (by decide +kernel) (by decide +kernel) var_inj (fun a ha => var_head ha 32 (by decide +kernel)) h.2 h'.2 e2
  exact ⟨(stripEn_iff x y).2 ⟨e1, e3⟩, e4⟩
theorem fn_inj {x y : FnD} {r r' : List UInt8} (h : okFn x) (h' : okFn y) (e : fnT x ++ r = fnT y ++ r') : stripFn x = stripFn y ∧ r = r' := by
  rw [fn_form, fn_form] at e
  simp only [List.append_assoc, List.cons_append, List.nil_append, List.cons.injEq, true_and] at e
  obtain ⟨e1, e2⟩ := word_inj (word_N (small_word h.1.1)) (word_N (small_word h'.1.1)) (Fo.cons (by decide +kernel)) (Fo.cons (by decide +kernel)) e
  simp only [List.cons.injEq, true_and] at e2
  obtain ⟨e3, e4⟩ := join_inj (F := isN) (by decide +kernel) (by decide +kernel) (by decide) fld_inj (fun a ha => fld_head ha 41 (by decide +kernel)) h.1.2 h'.1.2 e2
  simp only [List.cons.injEq, true_and] at e4
  obtain ⟨e5, e6⟩ := (bs_inj _).1 _ x.body y.body 1 1 0 _ _ _ _ h.2.1 h'.2.1 h.2.2 h'.2.2 rfl rfl e4
  have e7 : (125 :: 10 :: r : List UInt8) = 125 :: 10 :: r' := e6
  exact ⟨(stripFn_iff x y).2 ⟨e1, e3, e5⟩, by simpa using e7⟩

theorem rows_inj {A B : Type} {f : A → List UInt8} {g : A → B} {V : A → Prop} {q : Nat → Prop} (ht : ∀ a r, q (soTag (f a ++ r))) (hi : ∀ {a b r r'}, V a → V b → f a ++ r = f b ++ r' → g a = g b ∧ r = r') :
    ∀ {l l' : List A} {r r' : List UInt8}, (∀ a ∈ l, V a) → (∀ a ∈ l', V a) → ¬ q (soTag r) → ¬ q (soTag r') → (l.map f).flatten ++ r = (l'.map f).flatten ++ r' → l.map g = l'.map g ∧ r = r'
  | [], [], r, r', _, _, _, _, e => ⟨rfl, by simpa using e⟩
  | [], y :: l', r, r', _, _, hr, _, e => by
    exfalso
    apply hr
    rw [show r = f y ++ ((l'.map f).flatten ++ r') by simpa using e]
    exact ht _ _
  | x :: l, [], r, r', _, _, _, hr', e => by
    exfalso
    apply hr'
    rw [show r' = f x ++ ((l.map f).flatten ++ r) by simpa using e.symm]
    exact ht _ _
  | x :: l, y :: l', r, r', h, h', hr, hr', e => by
    simp only [List.map_cons, List.flatten_cons, List.append_assoc] at e
    obtain ⟨e1, e2⟩ := hi (h x (by simp)) (h' y (by simp)) e
    obtain ⟨e3, e4⟩ := rows_inj ht hi (fun a ha => h a (by simp [ha])) (fun a ha => h' a (by simp [ha])) hr hr' e2
    exact ⟨by rw [List.map_cons, List.map_cons, e1, e3], e4⟩
theorem src_ok {s : SourceD} (h : tValid05 s = true) (hw : wfL (sourceC s)) : (∀ x ∈ s.structs, okSt x) ∧ (∀ x ∈ s.enums, okEn x) ∧ ∀ x ∈ s.fns, okFn x := by
  rw [valid05_eq, rValid05_eq] at h
  simp only [Bool.and_eq_true, List.all_eq_true, rFields_eq, Bool.or_eq_true, noTy_iff] at h
  simp only [sourceC_eq, wfL, wfV] at hw
  refine ⟨fun x hx => ⟨(h.1 x hx).1, fun f hf => (h.1 x hx).2 f hf⟩, fun x hx => ⟨(h.2.1 x hx).1, fun f hf => (h.2.1 x hx).2 f hf⟩, fun x hx => ?_⟩
  have hb := wf_in_row hw.2.2.1 hx
  simp only [fnC_eq, wfL, wfV] at hb
  exact ⟨⟨(h.2.2 x hx).1, fun f hf => (h.2.2 x hx).2.1 f hf⟩, (h.2.2 x hx).2.2, hb.2.2.1⟩
theorem text_once {a b : SourceD} (ha : tValid05 a = true) (hb : tValid05 b = true) (wa : wfL (sourceC a)) (wb : wfL (sourceC b)) (e : textS a = textS b) : SameD a b := by
  obtain ⟨a1, a2, a3⟩ := src_ok ha wa
  obtain ⟨b1, b2, b3⟩ := src_ok hb wb
  have t3 : ∀ (l : List FnD), soTag ((l.map fnT).flatten) = 0 ∨ soTag ((l.map fnT).flatten) = 4 := fun l => by
    cases l with
    | nil => left; exact tag_nil
    | cons x l => right; rw [List.map_cons, List.flatten_cons, tag_fn]
  have t2 : ∀ (l : List EnumD) (l' : List FnD), soTag ((l.map enmT).flatten ++ (l'.map fnT).flatten) = 0 ∨ 3 ≤ soTag ((l.map enmT).flatten ++ (l'.map fnT).flatten) := fun l l' => by
    cases l with
    | nil => rcases t3 l' with h | h <;> simp [h]
    | cons x l => right; rw [List.map_cons, List.flatten_cons, List.append_assoc, tag_en]; exact Nat.le_refl _
  unfold textS at e
  rw [List.append_assoc, List.append_assoc] at e
  obtain ⟨e1, e2⟩ := rows_inj (f := stxT) (g := stripSt) (V := okSt) (q := fun n => n = 1 ∨ n = 2) (fun x r => by rw [tag_st]; split <;> simp) (fun h h' e => stx_inj h h' e) a1 b1
    (by rcases t2 a.enums a.fns with h | h <;> omega) (by rcases t2 b.enums b.fns with h | h <;> omega) e
  obtain ⟨e3, e4⟩ := rows_inj (f := enmT) (g := stripEn) (V := okEn) (q := fun n => n = 3) (fun x r => by rw [tag_en]) (fun h h' e => enm_inj h h' e) a2 b2
    (by rcases t3 a.fns with h | h <;> omega) (by rcases t3 b.fns with h | h <;> omega) e2
  obtain ⟨e5, e6⟩ := rows_inj (f := fnT) (g := stripFn) (V := okFn) (q := fun n => n = 4) (r := []) (r' := []) (fun x r => by rw [tag_fn]) (fun h h' e => fn_inj h h' e) a3 b3 (by simp [tag_nil]) (by simp [tag_nil]) (by simpa using e4)
  exact ⟨e1, e3, e5⟩
end Go.Proofs.Tryz
end
section
namespace Go.Proofs.Tryz
open Go Go.AM

theorem lTreeOnce_true (a b : SourceD) (wa : wfL (sourceC a)) (wb : wfL (sourceC b)) : lTreeOnce a b = true := by
  have h1 : tSame a b = true → textS a = textS b := fun h => text_same ((tSame_iff a b).1 h)
  have h2 : tValid05 a = true → tValid05 b = true → textS a = textS b → tSame a b = true := fun ha hb h => (tSame_iff a b).2 (text_once ha hb wa wb h)
  unfold lTreeOnce
  by_cases c : textS a = textS b <;> cases hs : tSame a b <;> cases ha : tValid05 a <;> cases hb : tValid05 b <;> simp [c, hs, ha, hb, bnd] at h1 h2 ⊢
end Go.Proofs.Tryz
end
section
namespace Go.Proofs.Tryz
open Go Go.AM
attribute [local simp] wpG_op wpG_nil contG_some wpG_guard guardG_v guardG_o guardG_tup gval pureOp stepG_if isPick pickG_pick pickB_b pickOK isCall step_move step_assign step_alloc step_box boxV_some step_load step_store step_binOp step_unOp step_fieldAddr faV step_indexAddr ixA_slc ixA_arr step_extract extV_tup step_nilCheck ncV_ptr ncV_rp ncV_fn ncV_mp step_build buildV step_buildSlice bsV step_index ixV_arr ixV_str step_append apB step_makeSlice msV_i step_makeFunc over step_len step_makeMap mmV step_mapUpdate step_insert muA_map muB_mp step_lookup lkA_map lkB_mp step_slice slcV_s slcV_sl slcV_ro cutB_some slObV_arr bound_none bound_some bndV_i lenB_str lenB_ro lenB_sl lenB_nil lenB_z ld_ptr ld_rp offV_ptr offV_rp idxV_ro idxV_sl unV_not unV_neg binV_int binV_str binV_eqlb binV_neqb intOp strOp St.put updL setOb St.ev toV St.lk cellsOf AM.valOf TK.agg stv fillV places TI.zero condT_true condT_false finS resL resSlot packV ren ren1 ren0 Value.cells builtinV appendV elemsOf keepT room_of wrap_in toIdx passed Function.comp_def take_len_map lenV touchOf hid tab1 tab2 tab3 tab4 tab5 tab6 tab7 tab8 tab9 tab20 tab22 tab23 tab24 tab26 tab32 tab33 tab35 tab36 tab37 tab39 tab41 tab42 tab43 tab45 tab46 tab47 tab49 tab50 tab52 tab74 tab79 tab83 tab86 tab87 tab89 tab92 tab100 tab101 tab102 tab103 tab105 tab107 tab108 tab113 tab114 tab116 tab117 tab118 tab122 tab123 tab125 tab127 tab130 tab132 tab136 tab173 tab175 tab178 tab179 tab180 tab182 tab189 tab215 tab219 tab220 tab224 tab225 tab241 tab244 tab247 tab253 tab261 tab262 tab265 tab266 armC_eq blockC_eq bodyC_eq enumC_eq fieldC_eq fnC_eq inC_eq localC_eq mirBodyC_eq operC_eq placeC_eq rvC_eq sourceC_eq spotC_eq stepC_eq stmtC_eq structC_eq tmC_eq tyC_eq useC_eq valueC_eq variantC_eq binV_eqls binV_neqs cutL_nil cutL_junk cutL_cons ren_arr ren_gone ren_unborn ren_var ren_row step_convert cvV_i cvV_sl cvV_s cvK_slc cvE_u8 bytesOf bor1 bor2 bor3 bor4
set_option linter.unusedSimpArgs false
set_option linter.unusedVariables false
set_option maxRecDepth 10000
set_option maxHeartbeats 40000000
noncomputable section
set_option linter.unusedVariables false
theorem rd_TyD (k : Nat) (xs : List V) (h : shpW tab k 45 xs) : ∃ x : TyD, xs = tyC x ∧ True := by
  obtain ⟨yss, h1, h2, k', hk, h3⟩ := shpW_fields h (show (tab 45).kind = .str [(0, 42), (1, 9), (2, 43)] from rfl)
  match yss, h2 with
  | [y0, y1, y2], _ =>
    obtain ⟨a0, rfl, b0⟩ := shpW_int (h3 0 _ _ rfl rfl) (show (tab 42).kind = .int .i64 from rfl)
    obtain ⟨a1, rfl, b1⟩ := shpW_str (h3 1 _ _ rfl rfl) (show (tab 9).kind = .string from rfl)
    obtain ⟨a2, rfl, b2, c2⟩ := shpW_slc tyC (fun x => True) (h3 2 _ _ rfl rfl) (show (tab 43).kind = .slc 45 from rfl) (fun k _ l hl => rd_TyD k l hl)
    exact ⟨⟨a0, a1, a2⟩, by rw [h1]; simp [tyC_eq], trivial⟩
termination_by k
decreasing_by all_goals omega

theorem rd_FieldD (k : Nat) (xs : List V) (h : shpW tab k 100 xs) : ∃ x : FieldD, xs = fieldC x ∧ True := by
  obtain ⟨yss, h1, h2, k', hk, h3⟩ := shpW_fields h (show (tab 100).kind = .str [(0, 9), (1, 45)] from rfl)
  match yss, h2 with
  | [y0, y1], _ =>
    obtain ⟨a0, rfl, b0⟩ := shpW_str (h3 0 _ _ rfl rfl) (show (tab 9).kind = .string from rfl)
    obtain ⟨a1, rfl, b1⟩ := rd_TyD _ _ (h3 1 _ _ rfl rfl)
    exact ⟨⟨a0, a1⟩, by rw [h1]; simp [fieldC_eq], trivial⟩

theorem rd_StructD (k : Nat) (xs : List V) (h : shpW tab k 86 xs) : ∃ x : StructD, xs = structC x ∧ True := by
  obtain ⟨yss, h1, h2, k', hk, h3⟩ := shpW_fields h (show (tab 86).kind = .str [(0, 9), (1, 4), (2, 33), (3, 3)] from rfl)
  match yss, h2 with
  | [y0, y1, y2, y3], _ =>
    obtain ⟨a0, rfl, b0⟩ := shpW_str (h3 0 _ _ rfl rfl) (show (tab 9).kind = .string from rfl)
    obtain ⟨a1, rfl⟩ := shpW_bool (h3 1 _ _ rfl rfl) (show (tab 4).kind = .bool from rfl)
    obtain ⟨a2, rfl, b2, c2⟩ := shpW_slc fieldC (fun x => True) (h3 2 _ _ rfl rfl) (show (tab 33).kind = .slc 100 from rfl) (fun k _ l hl => rd_FieldD k l hl)
    obtain ⟨a3, rfl, b3⟩ := shpW_int (h3 3 _ _ rfl rfl) (show (tab 3).kind = .int .i64 from rfl)
    exact ⟨⟨a0, a1, a2, a3⟩, by rw [h1]; simp [structC_eq], trivial⟩

theorem rd_VariantD (k : Nat) (xs : List V) (h : shpW tab k 92 xs) : ∃ x : VariantD, xs = variantC x ∧ True := by
  obtain ⟨yss, h1, h2, k', hk, h3⟩ := shpW_fields h (show (tab 92).kind = .str [(0, 9), (1, 45)] from rfl)
  match yss, h2 with
  | [y0, y1], _ =>
    obtain ⟨a0, rfl, b0⟩ := shpW_str (h3 0 _ _ rfl rfl) (show (tab 9).kind = .string from rfl)
    obtain ⟨a1, rfl, b1⟩ := rd_TyD _ _ (h3 1 _ _ rfl rfl)
    exact ⟨⟨a0, a1⟩, by rw [h1]; simp [variantC_eq], trivial⟩

theorem rd_EnumD (k : Nat) (xs : List V) (h : shpW tab k 89 xs) : ∃ x : EnumD, xs = enumC x ∧ True := by
  obtain ⟨yss, h1, h2, k', hk, h3⟩ := shpW_fields h (show (tab 89).kind = .str [(0, 9), (1, 87), (2, 3)] from rfl)
  match yss, h2 with
  | [y0, y1, y2], _ =>
    obtain ⟨a0, rfl, b0⟩ := shpW_str (h3 0 _ _ rfl rfl) (show (tab 9).kind = .string from rfl)
    obtain ⟨a1, rfl, b1, c1⟩ := shpW_slc variantC (fun x => True) (h3 1 _ _ rfl rfl) (show (tab 87).kind = .slc 92 from rfl) (fun k _ l hl => rd_VariantD k l hl)
    obtain ⟨a2, rfl, b2⟩ := shpW_int (h3 2 _ _ rfl rfl) (show (tab 3).kind = .int .i64 from rfl)
    exact ⟨⟨a0, a1, a2⟩, by rw [h1]; simp [enumC_eq], trivial⟩

theorem rd_StepD (k : Nat) (xs : List V) (h : shpW tab k 79 xs) : ∃ x : StepD, xs = stepC x ∧ True := by
  obtain ⟨yss, h1, h2, k', hk, h3⟩ := shpW_fields h (show (tab 79).kind = .str [(0, 9)] from rfl)
  match yss, h2 with
  | [y0], _ =>
    obtain ⟨a0, rfl, b0⟩ := shpW_str (h3 0 _ _ rfl rfl) (show (tab 9).kind = .string from rfl)
    exact ⟨⟨a0⟩, by rw [h1]; simp [stepC_eq], trivial⟩

theorem rd_PlaceD (k : Nat) (xs : List V) (h : shpW tab k 39 xs) : ∃ x : PlaceD, xs = placeC x ∧ True := by
  obtain ⟨yss, h1, h2, k', hk, h3⟩ := shpW_fields h (show (tab 39).kind = .str [(0, 9), (1, 37)] from rfl)
  match yss, h2 with
  | [y0, y1], _ =>
    obtain ⟨a0, rfl, b0⟩ := shpW_str (h3 0 _ _ rfl rfl) (show (tab 9).kind = .string from rfl)
    obtain ⟨a1, rfl, b1, c1⟩ := shpW_slc stepC (fun x => True) (h3 1 _ _ rfl rfl) (show (tab 37).kind = .slc 79 from rfl) (fun k _ l hl => rd_StepD k l hl)
    exact ⟨⟨a0, a1⟩, by rw [h1]; simp [placeC_eq], trivial⟩

theorem rd_OperD (k : Nat) (xs : List V) (h : shpW tab k 41 xs) : ∃ x : OperD, xs = operC x ∧ True := by
  obtain ⟨yss, h1, h2, k', hk, h3⟩ := shpW_fields h (show (tab 41).kind = .str [(0, 4), (1, 3), (2, 39)] from rfl)
  match yss, h2 with
  | [y0, y1, y2], _ =>
    obtain ⟨a0, rfl⟩ := shpW_bool (h3 0 _ _ rfl rfl) (show (tab 4).kind = .bool from rfl)
    obtain ⟨a1, rfl, b1⟩ := shpW_int (h3 1 _ _ rfl rfl) (show (tab 3).kind = .int .i64 from rfl)
    obtain ⟨a2, rfl, b2⟩ := rd_PlaceD _ _ (h3 2 _ _ rfl rfl)
    exact ⟨⟨a0, a1, a2⟩, by rw [h1]; simp [operC_eq], trivial⟩

theorem rd_RvD (k : Nat) (xs : List V) (h : shpW tab k 49 xs) : ∃ x : RvD, xs = rvC x ∧ True := by
  obtain ⟨yss, h1, h2, k', hk, h3⟩ := shpW_fields h (show (tab 49).kind = .str [(0, 46), (1, 47), (2, 39), (4, 9), (5, 9)] from rfl)
  match yss, h2 with
  | [y0, y1, y2, y3, y4], _ =>
    obtain ⟨a0, rfl, b0⟩ := shpW_int (h3 0 _ _ rfl rfl) (show (tab 46).kind = .int .i64 from rfl)
    obtain ⟨a1, rfl, b1, c1⟩ := shpW_slc operC (fun x => True) (h3 1 _ _ rfl rfl) (show (tab 47).kind = .slc 41 from rfl) (fun k _ l hl => rd_OperD k l hl)
    obtain ⟨a2, rfl, b2⟩ := rd_PlaceD _ _ (h3 2 _ _ rfl rfl)
    obtain ⟨a3, rfl, b3⟩ := shpW_str (h3 3 _ _ rfl rfl) (show (tab 9).kind = .string from rfl)
    obtain ⟨a4, rfl, b4⟩ := shpW_str (h3 4 _ _ rfl rfl) (show (tab 9).kind = .string from rfl)
    exact ⟨⟨a0, a1, a2, a3, a4⟩, by rw [h1]; simp [rvC_eq], trivial⟩

mutual
theorem rd_ArmD (k : Nat) (xs : List V) (h : shpW tab k 136 xs) : ∃ x : ArmD, xs = armC x ∧ True := by
  obtain ⟨yss, h1, h2, k', hk, h3⟩ := shpW_fields h (show (tab 136).kind = .str [(0, 9), (1, 9), (2, 32)] from rfl)
  match yss, h2 with
  | [y0, y1, y2], _ =>
    obtain ⟨a0, rfl, b0⟩ := shpW_str (h3 0 _ _ rfl rfl) (show (tab 9).kind = .string from rfl)
    obtain ⟨a1, rfl, b1⟩ := shpW_str (h3 1 _ _ rfl rfl) (show (tab 9).kind = .string from rfl)
    obtain ⟨a2, rfl, b2, c2⟩ := shpW_slc stmtC (fun x => True) (h3 2 _ _ rfl rfl) (show (tab 32).kind = .slc 52 from rfl) (fun k _ l hl => rd_StmtD k l hl)
    exact ⟨⟨a0, a1, a2⟩, by rw [h1]; simp [armC_eq], trivial⟩
termination_by k
decreasing_by all_goals omega

theorem rd_StmtD (k : Nat) (xs : List V) (h : shpW tab k 52 xs) : ∃ x : StmtD, xs = stmtC x ∧ True := by
  obtain ⟨yss, h1, h2, k', hk, h3⟩ := shpW_fields h (show (tab 52).kind = .str [(0, 36), (1, 3), (2, 9), (3, 45), (6, 39), (8, 49), (14, 41), (18, 32), (19, 32), (20, 50)] from rfl)
  match yss, h2 with
  | [y0, y1, y2, y3, y4, y5, y6, y7, y8, y9], _ =>
    obtain ⟨a0, rfl, b0⟩ := shpW_int (h3 0 _ _ rfl rfl) (show (tab 36).kind = .int .i64 from rfl)
    obtain ⟨a1, rfl, b1⟩ := shpW_int (h3 1 _ _ rfl rfl) (show (tab 3).kind = .int .i64 from rfl)
    obtain ⟨a2, rfl, b2⟩ := shpW_str (h3 2 _ _ rfl rfl) (show (tab 9).kind = .string from rfl)
    obtain ⟨a3, rfl, b3⟩ := rd_TyD _ _ (h3 3 _ _ rfl rfl)
    obtain ⟨a4, rfl, b4⟩ := rd_PlaceD _ _ (h3 4 _ _ rfl rfl)
    obtain ⟨a5, rfl, b5⟩ := rd_RvD _ _ (h3 5 _ _ rfl rfl)
    obtain ⟨a6, rfl, b6⟩ := rd_OperD _ _ (h3 6 _ _ rfl rfl)
    obtain ⟨a7, rfl, b7, c7⟩ := shpW_slc stmtC (fun x => True) (h3 7 _ _ rfl rfl) (show (tab 32).kind = .slc 52 from rfl) (fun k _ l hl => rd_StmtD k l hl)
    obtain ⟨a8, rfl, b8, c8⟩ := shpW_slc stmtC (fun x => True) (h3 8 _ _ rfl rfl) (show (tab 32).kind = .slc 52 from rfl) (fun k _ l hl => rd_StmtD k l hl)
    obtain ⟨a9, rfl, b9, c9⟩ := shpW_slc armC (fun x => True) (h3 9 _ _ rfl rfl) (show (tab 50).kind = .slc 136 from rfl) (fun k _ l hl => rd_ArmD k l hl)
    exact ⟨⟨a0, a1, a2, a3, a4, a5, a6, a7, a8, a9⟩, by rw [h1]; simp [stmtC_eq], trivial⟩
termination_by k
decreasing_by all_goals omega
end

theorem rd_FnD (k : Nat) (xs : List V) (h : shpW tab k 35 xs) : ∃ x : FnD, xs = fnC x ∧ True := by
  obtain ⟨yss, h1, h2, k', hk, h3⟩ := shpW_fields h (show (tab 35).kind = .str [(0, 9), (1, 33), (2, 32), (3, 3)] from rfl)
  match yss, h2 with
  | [y0, y1, y2, y3], _ =>
    obtain ⟨a0, rfl, b0⟩ := shpW_str (h3 0 _ _ rfl rfl) (show (tab 9).kind = .string from rfl)
    obtain ⟨a1, rfl, b1, c1⟩ := shpW_slc fieldC (fun x => True) (h3 1 _ _ rfl rfl) (show (tab 33).kind = .slc 100 from rfl) (fun k _ l hl => rd_FieldD k l hl)
    obtain ⟨a2, rfl, b2, c2⟩ := shpW_slc stmtC (fun x => True) (h3 2 _ _ rfl rfl) (show (tab 32).kind = .slc 52 from rfl) (fun k _ l hl => rd_StmtD k l hl)
    obtain ⟨a3, rfl, b3⟩ := shpW_int (h3 3 _ _ rfl rfl) (show (tab 3).kind = .int .i64 from rfl)
    exact ⟨⟨a0, a1, a2, a3⟩, by rw [h1]; simp [fnC_eq], trivial⟩

theorem rd_SourceD (k : Nat) (xs : List V) (h : shpW tab k 26 xs) : ∃ x : SourceD, xs = sourceC x ∧ True := by
  obtain ⟨yss, h1, h2, k', hk, h3⟩ := shpW_fields h (show (tab 26).kind = .str [(0, 22), (1, 23), (2, 24)] from rfl)
  match yss, h2 with
  | [y0, y1, y2], _ =>
    obtain ⟨a0, rfl, b0, c0⟩ := shpW_slc structC (fun x => True) (h3 0 _ _ rfl rfl) (show (tab 22).kind = .slc 86 from rfl) (fun k _ l hl => rd_StructD k l hl)
    obtain ⟨a1, rfl, b1, c1⟩ := shpW_slc enumC (fun x => True) (h3 1 _ _ rfl rfl) (show (tab 23).kind = .slc 89 from rfl) (fun k _ l hl => rd_EnumD k l hl)
    obtain ⟨a2, rfl, b2, c2⟩ := shpW_slc fnC (fun x => True) (h3 2 _ _ rfl rfl) (show (tab 24).kind = .slc 35 from rfl) (fun k _ l hl => rd_FnD k l hl)
    exact ⟨⟨a0, a1, a2⟩, by rw [h1]; simp [sourceC_eq], trivial⟩
end
end Go.Proofs.Tryz
end
section
namespace Go.Proofs.YtakfpmogpnoibaaGreatDoor
open Go.ChangeShapes Go.WideShapes Go.ChangeAt Go.RowKit Go.AM Go.Proofs.Tryz

theorem ownKnobNone : ownKnob Tryz.prog.godebug = none := by kernel_rfl
theorem laidOutAll : laidOutB Tryz.prog = true := by kernel_rfl
def readT : List TypeId := [3, 4, 9, 22, 23, 24, 26, 32, 33, 35, 36, 37, 39, 41, 42, 43, 45, 46, 47, 49, 50, 52, 79, 86, 87, 89, 92, 100, 136]
theorem readT_closed : closedS tab readT = true := by decide +kernel

theorem gokOf {W : World} {L : List (String × DataW Unit)} (hL : L.drop 2 = [("internal/strconv.uint64pow10", Lib.tabData .u64 Lib.pow10Tab)])
    (hp : (L.all fun x => x.2.handleName?.isNone) = true) (h : laidMetH Tryz.prog L W) : GOK Tryz.prog W (fun _ => False) := by
  rw [MakeChecks.laidMetH_plain _ _ _ hp] at h
  obtain ⟨a, b, rfl⟩ : ∃ a b, L = [a, b, ("internal/strconv.uint64pow10", Lib.tabData .u64 Lib.pow10Tab)] := by
    match L, hL with
    | a :: b :: r, hL => exact ⟨a, b, by rw [show r = _ from hL]⟩
  have h1 := Lib.tabIs_of_head (g := 0) (t := 261) (e := 247) (n := 20) (by kernel_rfl) (by kernel_rfl) (by kernel_rfl) (by kernel_rfl) (by kernel_rfl) (by kernel_rfl) (laidMet.tail (laidMet.tail h))
  intro e he
  obtain rfl := List.mem_singleton.1 he
  refine ⟨h1, fun g hg => ⟨?_, not_false⟩⟩
  unfold Lib.TabIs World.var? at h1
  rw [hg] at h1
  simp only [Option.bind_some] at h1
  rcases Nat.lt_or_ge g W.heap.size with h' | h'
  · exact h'
  · rw [Array.getElem?_eq_none h'] at h1; cases h1
end Go.Proofs.YtakfpmogpnoibaaGreatDoor
end
section
namespace Go.Proofs.YtakfpmogpnoibaaGreatDoor
open Go.ChangeShapes Go.WideShapes Go.ChangeAt Go.RowKit Go.AM Go.Proofs.Tryz

theorem bulk_all {H : Type} : ∀ ds : List (DataW H), Rows.uptoBulkAll ds = (ds.map Rows.uptoBulk).sum
  | [] => rfl
  | d :: ds => by simp only [Rows.uptoBulkAll, List.map_cons, List.sum_cons, bulk_all ds]
theorem bulk_pos {H : Type} : ∀ d : DataW H, 1 ≤ Rows.uptoBulk d
  | .lit l => by cases l <;> simp [Rows.uptoBulk]
  | .nil => by simp [Rows.uptoBulk]
  | .ptr _ => by simp [Rows.uptoBulk]
  | .slice _ _ => by simp [Rows.uptoBulk]
  | .agg _ => by simp [Rows.uptoBulk]
  | .iface _ _ => by simp [Rows.uptoBulk]
  | .map _ => by simp [Rows.uptoBulk]
  | .held _ => by simp [Rows.uptoBulk]

set_option maxRecDepth 100000 in
theorem treeOnceLifted (HQ : ∀ (xs0 : List V) (xs1 : List V) (n0 : Nat) (n1 : Nat), shpW tab n0 26 xs0 → shpW tab n1 26 xs1 → bkL xs0 ≤ 1048576 → bkL xs1 ≤ 1048576 → QC Tryz.prog 4 [.agg xs0, .agg xs1] [] (.b true) []) (os : Os) (started : os.Started) (H : Type) (enc : TypeId × Value → H) (F0 : Stop.Interp) :
    ReturnsInHanded {} Tryz.checked os 4 .any (OpenSpec.preRow enc Tryz.prog Tryz.f4 (Rows.OpenSpec.upto Rows.treeOnceSpec) Rows.treeOnceUptoRow.domain false Rows.treeOnceUptoRow.laid)
      (((Rows.OpenSpec.upto Rows.treeOnceSpec).at F0).post enc Tryz.prog Tryz.f4 false true false false) := by
  refine returnsInHanded_of_cond_and (C := Tryz.checked) (s := Rows.OpenSpec.upto Rows.treeOnceSpec) (k := Rows.uptoSmall) rfl ownKnobNone started (by kernel_rfl) Tryz.func4
    (witness_cond (enc := enc) (C := Tryz.checked) (os := os) (s := Rows.OpenSpec.upto Rows.treeOnceSpec) false (World.laidAll Tryz.prog os Rows.treeOnceUptoRow.laid) #[.agg #[.slice none 0 0, .slice none 0 0, .slice none 0 0], .agg #[.slice none 0 0, .slice none 0 0, .slice none 0 0]] 8 (World.laidAll_os _ _ _)
      (World.shaped_of_ZipB (by kernel_rfl) (by kernel_rfl)) (by kernel_rfl)
      (OpenSpec.preRow_of_cond 8 (x := ([.agg [.nil, .nil, .nil], .agg [.nil, .nil, .nil]], [], [])) (by kernel_rfl) (by kernel_rfl) (fun k hk => by cases hk; kernel_rfl) (by kernel_rfl) (by rw [MakeChecks.laidMetH_plain _ _ _ (by kernel_rfl)]; exact laidMet_laidAll _ (by kernel_rfl) (by kernel_rfl)))) ?_
  intro W base args ds gs before hval0 hW hk hwt hL
  have hval : ∀ (j : Nat) t v, Tryz.f4.params[j]? = some t → args[j]? = some v → Value.okWide Tryz.prog W .any base t v := hval0
  have hW' := hW
  obtain ⟨p, q, hA0, hV, rfl, _, _⟩ := hW
  have hA : DataW.TrodAll enc Tryz.prog W 0 (fun _ => true) true Tryz.f4.params.toList args.toList ds p := hA0
  rw [Tryz.params4] at hA hval
  have hw : ∀ x ∈ DataW.weightsEach Tryz.prog (Tryz.f4.params.toList ++ Rows.treeOnceSpec.plain.varTypes Tryz.prog) (ds ++ gs), x ≤ reachBytes := fun x hx => of_decide_eq_true (List.all_eq_true.1 hwt x hx)
  have hz := of_decide_eq_true hk
  obtain ⟨v0, v1, d0, d1, p0, p1, rfl, rfl, rfl, h0, h1⟩ := trodAll_two hA
  obtain ⟨rfl, rfl⟩ := trodVars_none hV
  rw [Tryz.params4] at hw
  have hw0 : ∀ q ∈ d0.weights Tryz.prog 26, q ≤ reachBytes := fun q hq => hw q (DataW.weights_mem_each (j := 0) rfl rfl q hq)
  have hw1 : ∀ q ∈ d1.weights Tryz.prog 26, q ≤ reachBytes := fun q hq => hw q (DataW.weights_mem_each (j := 1) rfl rfl q hq)
  simp only [List.append_nil] at hW'
  have hlt : ∀ x ∈ p0 ++ p1, x.block < W.heap.size := fun x hx => by simpa using hW'.lt x (by simpa using hx)
  simp only [List.append_nil, Rows.uptoBulkAll] at hz
  obtain ⟨xs0, ⟨n0, hs0⟩, hz0, hr0⟩ := arg_structB tabOK (T := tab) (t := 26) (S := readT) Rows.uptoBulk (fun s => by simp [Rows.uptoBulk]) bulk_pos (fun es sp => by simp only [Rows.uptoBulk, bulk_all]; omega) (fun ps => by simp only [Rows.uptoBulk, bulk_all]; omega) readT_closed rfl (by decide) (hval 0 26 v0 rfl rfl) h0 hw0
  obtain ⟨xs1, ⟨n1, hs1⟩, hz1, hr1⟩ := arg_structB tabOK (T := tab) (t := 26) (S := readT) Rows.uptoBulk (fun s => by simp [Rows.uptoBulk]) bulk_pos (fun es sp => by simp only [Rows.uptoBulk, bulk_all]; omega) (fun ps => by simp only [Rows.uptoBulk, bulk_all]; omega) readT_closed rfl (by decide) (hval 1 26 v1 rfl rfl) h1 hw1
  refine ((HQ xs0 xs1 n0 n1 hs0 hs1 (by omega) (by omega)).truth (gokOf (L := Rows.treeOnceUptoRow.laid) (by kernel_rfl) (by kernel_rfl) hL) (vs := #[v0, v1]) (W := W) rfl (fun ok hok D j x u hx hu => ?_)).mono fun e W' ⟨he, hb⟩ => ?_
  · match j with
    | 0 =>
      simp only [List.getElem?_cons_succ, List.getElem?_cons_zero, Option.some.injEq] at hx
      subst hx
      obtain rfl : v0 = u := by simpa using hu
      exact hr0 ok hok D
    | 1 =>
      simp only [List.getElem?_cons_succ, List.getElem?_cons_zero, Option.some.injEq] at hx
      subst hx
      obtain rfl : v1 = u := by simpa using hu
      exact hr1 ok hok D
    | j + 2 => simp at hx
  · subst he
    refine ⟨_, rfl, _, _, _, [], p0 ++ p1, [], by first | exact hW' | simpa using hW', ?_, ?_, ?_, hb.frame _, fun h => by cases h⟩
    · exact trodAll_mk1 (shut_bool Tryz.underlying4 true)
    · have hpl : p0 ++ (p1) = p0 ++ p1 := by simp
      rw [← hpl]
      exact trodAll_mk2 (Below.trod laidOutAll (by kernel_rfl) (of_decide_eq_true (by kernel_rfl)) h0 hb (fun x hx => hlt x (by simp [hx]))) (Below.trod laidOutAll (by kernel_rfl) (of_decide_eq_true (by kernel_rfl)) h1 hb (fun x hx => hlt x (by simp [hx])))
    · rfl

theorem treeOnceHolds (HQ : ∀ (xs0 : List V) (xs1 : List V) (n0 : Nat) (n1 : Nat), shpW tab n0 26 xs0 → shpW tab n1 26 xs1 → bkL xs0 ≤ 1048576 → bkL xs1 ≤ 1048576 → QC Tryz.prog 4 [.agg xs0, .agg xs1] [] (.b true) []) : Rows.TreeOnceUptoSaid :=
  OpenClaim.holds_of_cond 4 Tryz.f4 rfl rfl rfl rfl rfl rfl rfl ⟨rfl, rfl, rfl, rfl, rfl⟩ rfl rfl rfl rfl rfl (by kernel_rfl) Tryz.func4 (by kernel_rfl)
    (of_decide_eq_true (by kernel_rfl)) (by unfold Func.isWrapper; rw [if_neg (by decide +kernel)]; exact ⟨rfl, rfl⟩)
    (fun os started H enc _ F0 => by rw [OpenClaim.pre_eq_preRow]; exact treeOnceLifted HQ os started H enc F0)

theorem treeOnceCard (HQ : ∀ (xs0 : List V) (xs1 : List V) (n0 : Nat) (n1 : Nat), shpW tab n0 26 xs0 → shpW tab n1 26 xs1 → bkL xs0 ≤ 1048576 → bkL xs1 ≤ 1048576 → QC Tryz.prog 4 [.agg xs0, .agg xs1] [] (.b true) []) : Rows.TreeOnceUptoCardSaid :=
  Claim7.holds_tied_plain_at .later [] [.data, .data, .data] true (true, "5fb048d045625182b10262516d9c4193a6b1e98e8e618b184d271e5fcbaa7853") false (treeOnceHolds HQ) (fun _ h => by cases h) (by kernel_rfl) (fun _ h => by cases h) treeOnceUpto_row_tie rfl ⟨rfl, rfl⟩ (by kernel_rfl) rfl
    (fun f fn hf hfn => by
      obtain rfl : f = 4 := Option.some.inj ((show Tryz.prog.funcNamed "cocoon/cocoonlaw05.TreeOnce" = some 4 by kernel_rfl).symm.trans hf) |>.symm
      obtain rfl : fn = Tryz.f4 := (Option.some.inj (Tryz.func4.symm.trans hfn)).symm
      exact ⟨by kernel_rfl, fun j t ht => by
        rw [Tryz.params4] at ht
        have hm : t ∈ [26, 26] := by simpa using Array.mem_of_getElem? ht
        have hall : ([26, 26].all fun u => !Tryz.prog.wantsStandIn u) = true := by kernel_rfl
        exact (show Tryz.prog.wantsStandIn t = false by simpa using List.all_eq_true.1 hall t hm)⟩)
    (by kernel_rfl)

theorem treeOnce_card : Rows.TreeOnceUptoCardSaid := treeOnceCard fun xs0 xs1 n0 n1 hs0 hs1 hz0 hz1 => by
  obtain ⟨s, rfl, _⟩ := rd_SourceD n0 xs0 hs0
  obtain ⟨u, rfl, _⟩ := rd_SourceD n1 xs1 hs1
  have h := w_lTreeOnce s u (wfL_of n0 _ _ hs0) (by omega) (wfL_of n1 _ _ hs1) (by omega)
  rw [lTreeOnce_true s u (wfL_of n0 _ _ hs0) (wfL_of n1 _ _ hs1)] at h
  simpa [sourceC_eq] using h
end Go.Proofs.YtakfpmogpnoibaaGreatDoor
end
