/- Rows that become data; over; the document's examples; what is read as an argument. -/
import Derived.Test.YtaklafpfbhaoaaaDoorWalkB
import Derived.Test.YtaklafpfbhaoaaaDoorMachE
import Derived.Test.YtaklafpfbhaoaaaDoorWalkC
import Derived.Test.YtaklafpfbhaoaaaDoorMachD
import Derived.Test.YtaklafpfbhaoaaaDoorWalkA
set_option linter.unusedVariables false
set_option linter.unusedSimpArgs false
set_option linter.constructorNameAsVariable false
section
namespace Go.Proofs.Tryd
open Go Go.AM
attribute [local simp] wpG_op wpG_nil contG_some wpG_guard guardG_v guardG_o guardG_tup gval pureOp stepG_if isPick pickG_pick pickB_b pickOK isCall step_move step_assign step_alloc step_box boxV_some step_load step_store step_binOp step_unOp step_fieldAddr faV step_indexAddr ixA_slc ixA_arr step_extract extV_tup step_nilCheck ncV_ptr ncV_rp ncV_fn ncV_mp step_build buildV step_buildSlice bsV step_index ixV_arr ixV_str step_append apB step_makeSlice msV_i step_makeFunc over step_len step_makeMap mmV step_mapUpdate step_insert muA_map muB_mp step_lookup lkA_map lkB_mp step_slice slcV_s slcV_sl slcV_ro cutB_some slObV_arr bound_none bound_some bndV_i lenB_str lenB_ro lenB_sl lenB_nil lenB_z ld_ptr ld_rp offV_ptr offV_rp idxV_ro idxV_sl unV_not unV_neg binV_int binV_str binV_eqlb binV_neqb intOp strOp St.put updL setOb St.ev toV St.lk cellsOf AM.valOf TK.agg stv fillV places TI.zero condT_true condT_false finS resL resSlot packV ren ren1 ren0 Value.cells builtinV appendV elemsOf keepT room_of wrap_in toIdx passed Function.comp_def take_len_map lenV touchOf hid tab1 tab2 tab3 tab4 tab5 tab6 tab7 tab8 tab9 tab10 tab11 tab12 tab13 tab14 tab15 tab16 tab17 tab18 tab19 tab20 tab21 tab22 tab23 tab24 tab25 tab26 tab28 tab29 tab30 tab31 tab32 tab33 tab34 tab35 tab36 tab37 tab38 tab39 tab40 tab41 tab42 tab43 tab44 tab45 tab46 tab48 tab49 tab50 tab51 tab52 tab53 tab54 tab55 tab56 tab57 tab58 tab59 tab60 tab61 tab62 tab63 tab64 tab65 tab67 tab68 tab69 tab70 tab71 tab72 tab73 tab74 tab75 tab76 tab77 tab78 tab79 tab80 tab81 tab82 tab83 tab84 tab85 tab86 tab89 tab90 tab91 tab92 tab93 tab94 tab95 tab96 tab98 tab99 tab100 tab101 tab102 tab103 tab104 tab105 tab106 tab107 tab108 tab109 tab113 tab114 tab115 tab116 tab117 tab118 tab119 tab120 ren_arr ren_gone ren_unborn
set_option linter.unusedSimpArgs false
set_option maxRecDepth 10000
set_option maxHeartbeats 4000000

def bigF (f : List InsD) : Bool := decide (60 < f.length) || f.any fun x => decide (60 < x.l.length)
def overB (funs : List (List InsD)) (cos : List CoD) : Bool := decide (60 < funs.length) || decide (60 < cos.length) || funs.any bigF
theorem bigF_len {f : List InsD} (h : 60 < f.length) : bigF f = true := by simp [bigF, h]
theorem bigF_ins {f : List InsD} {x : InsD} (hx : x ∈ f) (h : 60 < x.l.length) : bigF f = true := by
  unfold bigF
  rw [Bool.or_eq_true]
  exact .inr (List.any_eq_true.2 ⟨x, hx, by simpa using h⟩)
theorem bigF_no {f : List InsD} (h : f.length ≤ 60) (h2 : ∀ x ∈ f, decide (60 < x.l.length) = false) : bigF f = false := by
  unfold bigF
  rw [Bool.or_eq_false_iff]
  exact ⟨by simp; omega, List.any_eq_false.2 fun x hx => by rw [h2 x hx]; simp⟩
theorem over_big {funs : List (List InsD)} {cos : List CoD} {f : List InsD} (hf : f ∈ funs) (h : bigF f = true) : overB funs cos = true := by
  unfold overB
  rw [Bool.or_eq_true]
  exact .inr (List.any_eq_true.2 ⟨f, hf, h⟩)
theorem over_no {funs : List (List InsD)} {cos : List CoD} (h1 : funs.length ≤ 60) (h2 : cos.length ≤ 60) (h : ∀ f ∈ funs, bigF f = false) : overB funs cos = false := by
  unfold overB
  rw [Bool.or_eq_false_iff, Bool.or_eq_false_iff]
  exact ⟨⟨by simp; omega, by simp; omega⟩, List.any_eq_false.2 fun f hf => by rw [h f hf]; simp⟩
theorem takeG {α : Type} {p : α → Bool} {b : Bool} {l : List α} {i : Nat} (h : i < l.length) (hp : p l[i] = b) (hn : ∀ x ∈ l.take i, p x = b) : ∀ x ∈ l.take (i + 1), p x = b := by
  intro x hx
  rw [← List.take_append_getElem h] at hx
  rcases List.mem_append.1 hx with h1 | h1
  · exact hn x h1
  · rw [List.mem_singleton.1 h1]; exact hp
theorem walk18 (funs : List (List InsD)) (cos : List CoD) : QC prog 18 [.agg [.ro 1 (funs.map funC), .ro 5 (cos.map coV)]] [] (.b (overB funs cos)) [] := by
  refine QC.of_body tabOK func18 rfl (by kernel_rfl) ?_
  simp only [f18]
  refine EV.seq ?_
  refine EV.regionG tabOK ?_ -- region 0
  simp -implicitDefEqProofs
  refine EV.seq ?_
  refine EV.seq ?_
  refine EV.regionG tabOK ?_ -- region 1
  simp -implicitDefEqProofs +contextual
  refine EV.condT ?_
  simp -implicitDefEqProofs
  refine condT_intro (fun h1 => ?_) (fun h1 => ?_)
  · try simp at h1
    refine EV.seq ?_
    have hb : overB funs cos = true := by
      have h9 : 60 < funs.length ∨ 60 < cos.length := by (try simp at h1); omega
      unfold overB
      rcases h9 with h9 | h9 <;> simp [h9]
    refine EV.regionG tabOK ?_ -- region 2
    simp -implicitDefEqProofs
    refine EV.ret ?_
    simp only [thenK_ret, blockK_ret, scopeK_ret, bodyK_ret]
    refine Fin.pure0 ?_
    simp [hb]
  · try simp at h1
    refine EV.skip ?_
    simp only [thenK_normal, blockK_normal, scopeK_normal]
    refine EV.seq ?_
    refine EV.seq ?_
    have hs : funs.length ≤ 60 ∧ cos.length ≤ 60 := by (try simp at h1); omega
    obtain ⟨hs1, hs2⟩ := hs
    refine EV.regionG tabOK ?_ -- region 3
    simp -implicitDefEqProofs
    refine EV.block ?_
    refine EV.loopB ((fun i => ⟨[.junk, .ptr 0 0 0 0, .junk, n i.1, .junk, .junk, .junk, .junk, .junk, .junk, .junk, .junk, .junk, .junk, .junk, .junk, .junk, .junk, .junk, .junk, .junk, .junk, .junk, .junk, .junk, .junk, .junk, .junk, .junk, .junk, .junk, .junk, .junk, .junk, .junk, .junk, .junk, .junk, .junk, .junk, .junk, .junk, .junk, .junk, .junk, .junk, .junk, .junk, .junk, .junk], [.arr 0 2 [[.ro 1 (funs.map funC), .ro 5 (cos.map coV)]]]⟩ : { i : Nat // i ≤ funs.length ∧ ∀ f ∈ funs.take i, bigF f = false } → St)) (fun i => funs.length - i.1) (⟨0, by simp⟩) ?_ ?_
    · skip
      simp
      refine Sub.cutE 1 [false, true, false, true, false, false, false, false, false, false, false, false, false, false, false, false, false, false, false, false, false, false, false, false, false, false, false, false, false, false, false, false, false, false, false, false, false, false, false, false, false, false, false, false, false, false, false, false, false, false] (by simp) ?_ ?_ <;> simp [List.range_succ, toIdx_range, passed, keepT, *]
    · skip
      rintro ⟨i, hi, hp⟩
      simp only
      refine EV.seq ?_
      refine EV.seq ?_
      refine EV.regionG tabOK ?_ -- region 4
      simp -implicitDefEqProofs
      refine EV.condT ?_
      simp -implicitDefEqProofs
      refine condT_intro (fun h2 => ?_) (fun h2 => ?_)
      · try simp at h2
        refine EV.skip ?_
        simp only [thenK_normal, blockK_normal, scopeK_normal]
        refine EV.seq ?_
        refine EV.block ?_
        refine EV.seq ?_
        refine EV.seq ?_
        have hiF : i < funs.length := by first | assumption | omega
        refine EV.regionG tabOK ?_ -- region 6
        simp -implicitDefEqProofs [hiF, funC]
        refine EV.condT ?_
        simp -implicitDefEqProofs
        refine condT_intro (fun h3 => ?_) (fun h3 => ?_)
        · try simp at h3
          refine EV.seq ?_
          have hb : overB funs cos = true := over_big (List.getElem_mem hiF) (bigF_len (by omega))
          refine EV.regionG tabOK ?_ -- region 7
          simp -implicitDefEqProofs
          refine EV.ret ?_
          simp only [thenK_ret, blockK_ret, scopeK_ret, bodyK_ret]
          refine Fin.pure0 ?_
          simp [hb]
        · try simp at h3
          refine EV.skip ?_
          simp only [thenK_normal, blockK_normal, scopeK_normal]
          refine EV.seq ?_
          refine EV.regionG tabOK ?_ -- region 8
          simp -implicitDefEqProofs
          refine EV.block ?_
          refine EV.loopB ((fun j => ⟨[.junk, .ptr 0 0 0 0, .junk, n i, n j.1, .junk, .junk, .junk, .junk, .junk, .junk, .junk, .junk, .junk, .junk, .junk, .junk, .junk, .junk, .junk, .junk, .junk, .junk, .junk, .junk, .junk, .junk, .junk, .junk, .junk, .junk, .junk, .junk, .junk, .junk, .junk, .junk, .junk, .junk, .junk, .junk, .junk, .junk, .junk, .junk, .junk, .junk, .junk, .junk, .junk], [.arr 0 2 [[.ro 1 (funs.map funC), .ro 5 (cos.map coV)]]]⟩ : { j : Nat // j ≤ funs[i].length ∧ ∀ x ∈ funs[i].take j, decide (60 < x.l.length) = false } → St)) (fun j => funs[i].length - j.1) (⟨0, by simp⟩) ?_ ?_
          · skip
            simp
            refine Sub.cutE 1 [false, true, false, true, true, false, false, false, false, false, false, false, false, false, false, false, false, false, false, false, false, false, false, false, false, false, false, false, false, false, false, false, false, false, false, false, false, false, false, false, false, false, false, false, false, false, false, false, false, false] (by simp) ?_ ?_ <;> simp [List.range_succ, toIdx_range, passed, keepT, *]
          · skip
            rintro ⟨j, hj, hq⟩
            simp only
            refine EV.seq ?_
            refine EV.seq ?_
            have hjle : (j : Int) ≤ (funs[i].length : Int) := by omega
            refine EV.regionG tabOK ?_ -- region 9
            simp -implicitDefEqProofs [hiF, funC]
            refine EV.condT ?_
            simp -implicitDefEqProofs
            refine condT_intro (fun h4 => ?_) (fun h4 => ?_)
            · try simp at h4
              refine EV.skip ?_
              simp only [thenK_normal, blockK_normal, scopeK_normal]
              refine EV.seq ?_
              refine EV.block ?_
              refine EV.seq ?_
              have hjF : j < funs[i].length := by first | assumption | omega
              have hjI : (j : Int) < (funs[i].length : Int) := by omega
              refine EV.regionG tabOK ?_ -- region 11
              simp -implicitDefEqProofs [hiF, hjF, hjI, funC, insC]
              refine EV.condT ?_
              simp -implicitDefEqProofs
              refine condT_intro (fun h5 => ?_) (fun h5 => ?_)
              · try simp at h5
                refine EV.seq ?_
                have hb : overB funs cos = true := over_big (List.getElem_mem hiF) (bigF_ins (List.getElem_mem hjF) (by omega))
                refine EV.regionG tabOK ?_ -- region 12
                simp -implicitDefEqProofs
                refine EV.ret ?_
                simp only [thenK_ret, blockK_ret, scopeK_ret, bodyK_ret]
                refine Fin.pure0 ?_
                simp [hb]
              · try simp at h5
                refine EV.skip ?_
                simp only [thenK_normal, blockK_normal, scopeK_normal]
                refine EV.regionG tabOK ?_ -- region 10
                simp -implicitDefEqProofs
                have hw : IntKind.i64.wrap ((j : Int) + 1) = (j : Int) + 1 := wrap_in _ (by omega) (by omega)
                refine ⟨⟨j + 1, by omega, takeG hjF (by simp; omega) hq⟩, by simp; omega, ?_⟩
                refine Sub.cutE 1 [false, true, false, true, true, false, false, false, false, false, false, false, false, false, false, false, false, false, false, false, false, false, false, false, false, false, false, false, false, false, false, false, false, false, false, false, false, false, false, false, false, false, false, false, false, false, false, false, false, false] (by simp) ?_ ?_ <;> simp [List.range_succ, toIdx_range, passed, keepT, *]
            · try simp at h4
              refine EV.exit ?_
              simp -implicitDefEqProofs
              refine EV.regionG tabOK ?_ -- region 5
              simp -implicitDefEqProofs
              have hw : IntKind.i64.wrap ((i : Int) + 1) = (i : Int) + 1 := wrap_in _ (by omega) (by omega)
              have hT : funs[i].take j = funs[i] := List.take_of_length_le (by omega)
              rw [hT] at hq
              have hbig : bigF funs[i] = false := bigF_no (by omega) hq
              refine ⟨⟨i + 1, by omega, takeG hiF hbig hp⟩, by simp; omega, ?_⟩
              refine Sub.cutE 1 [false, true, false, true, false, false, false, false, false, false, false, false, false, false, false, false, false, false, false, false, false, false, false, false, false, false, false, false, false, false, false, false, false, false, false, false, false, false, false, false, false, false, false, false, false, false, false, false, false, false] (by simp) ?_ ?_ <;> simp [List.range_succ, toIdx_range, passed, keepT, *]
      · try simp at h2
        refine EV.exit ?_
        simp -implicitDefEqProofs
        refine EV.seq ?_
        have hT : funs.take i = funs := List.take_of_length_le (by omega)
        have hb : overB funs cos = false := over_no hs1 hs2 (by rw [hT] at hp; exact hp)
        refine EV.regionG tabOK ?_ -- region 13
        simp -implicitDefEqProofs
        refine EV.ret ?_
        simp only [thenK_ret, blockK_ret, scopeK_ret, bodyK_ret]
        refine Fin.pure0 ?_
        simp [hb]

end Go.Proofs.Tryd
end
section
namespace Go.Proofs.Tryd
open Go Go.AM

def chgI (g : Nat) (how : Int) (x : InsD) : InsD := if Int.tmod how 3 = 0 then { x with op := 99 } else if Int.tmod how 3 = 1 then { x with l := [(g : Int)] } else if Int.tmod how 3 = 2 then { x with a := 16 } else x
def qF (funs : List (List InsD)) (fn at1 how : Int) (j : Nat) : List InsD := if (j : Int) = fn then (funs.getD j []).set at1.toNat (chgI (funs.getD j []).length how ((funs.getD j []).getD at1.toNat ⟨0, 0, 0, 0, []⟩)) else funs.getD j []

theorem tmod3 (how : Int) : (Int.tmod how 3 = 0 ∧ ¬ Int.tmod how 3 = 1 ∧ ¬ Int.tmod how 3 = 2 ∧ ¬ Int.tmod how 3 < 0) ∨ (¬ Int.tmod how 3 = 0 ∧ Int.tmod how 3 = 1 ∧ ¬ Int.tmod how 3 = 2 ∧ ¬ Int.tmod how 3 < 0) ∨ (¬ Int.tmod how 3 = 0 ∧ ¬ Int.tmod how 3 = 1 ∧ Int.tmod how 3 = 2 ∧ ¬ Int.tmod how 3 < 0) ∨ (¬ Int.tmod how 3 = 0 ∧ ¬ Int.tmod how 3 = 1 ∧ ¬ Int.tmod how 3 = 2 ∧ Int.tmod how 3 < 0) := by
  have h : Int.tmod how 3 < 3 := Int.tmod_lt_of_pos how (by decide)
  omega

section
variable {funs : List (List InsD)} {cos : List CoD} {fn at1 how : Int}
theorem over_s (h : overB funs cos = false) : funs.length ≤ 60 ∧ cos.length ≤ 60 := by
  unfold overB at h
  rw [Bool.or_eq_false_iff, Bool.or_eq_false_iff] at h
  have h1 := of_decide_eq_false h.1.1
  have h2 := of_decide_eq_false h.1.2
  omega
theorem over_b (h : overB funs cos = false) {f : List InsD} (hf : f ∈ funs) : f.length ≤ 60 ∧ ∀ x ∈ f, x.l.length ≤ 60 := by
  unfold overB at h
  rw [Bool.or_eq_false_iff] at h
  have h1 := List.any_eq_false.1 h.2 f hf
  rw [Bool.not_eq_true] at h1
  unfold bigF at h1
  rw [Bool.or_eq_false_iff] at h1
  have h2 := of_decide_eq_false h1.1
  refine ⟨by omega, fun x hx => ?_⟩
  have h3 := List.any_eq_false.1 h1.2 x hx
  simp at h3; exact h3
theorem over_f (h : overB funs cos = false) {f : List InsD} (hf : f ∈ funs) : f.length ≤ 60 := (over_b h hf).1
theorem over_ll (h : overB funs cos = false) : ∀ f ∈ funs, ∀ x ∈ f, x.l.length ≤ 1000000 := fun f hf x hx => Nat.le_trans ((over_b h hf).2 x hx) (by decide)

theorem one_cases (funs : List (List InsD)) (cos : List CoD) (fn at1 : Int) : overB funs cos = true ∨ (overB funs cos = false ∧ validB funs cos = false) ∨ (overB funs cos = false ∧ validB funs cos = true ∧ fn < 0) ∨
    (overB funs cos = false ∧ validB funs cos = true ∧ ¬ fn < 0 ∧ (funs.length : Int) ≤ fn) ∨ (overB funs cos = false ∧ validB funs cos = true ∧ ¬ fn < 0 ∧ ¬ (funs.length : Int) ≤ fn ∧ at1 < 0) ∨
    (overB funs cos = false ∧ validB funs cos = true ∧ ¬ fn < 0 ∧ ¬ (funs.length : Int) ≤ fn ∧ ¬ at1 < 0 ∧ ((funs.getD fn.toNat []).length : Int) ≤ at1) ∨
    (overB funs cos = false ∧ validB funs cos = true ∧ ¬ fn < 0 ∧ ¬ (funs.length : Int) ≤ fn ∧ ¬ at1 < 0 ∧ ¬ ((funs.getD fn.toNat []).length : Int) ≤ at1) := by
  cases overB funs cos <;> cases validB funs cos <;> simp <;> omega

theorem qF_len (j : Nat) : (qF funs fn at1 how j).length = (funs.getD j []).length := by unfold qF; split <;> simp
theorem chgI_ll {g : Nat} {x : InsD} (h : x.l.length ≤ 1000000) : (chgI g how x).l.length ≤ 1000000 := by
  unfold chgI
  split
  · exact h
  · split
    · simp
    · split <;> exact h
theorem q_ll (h : overB funs cos = false) : ∀ f ∈ (List.range funs.length).map (qF funs fn at1 how), ∀ x ∈ f, x.l.length ≤ 1000000 := by
  intro f hf x hx
  obtain ⟨j, hj, rfl⟩ := List.mem_map.1 hf
  have hj2 : j < funs.length := List.mem_range.1 hj
  have hfg : funs.getD j [] = funs[j] := by simp [List.getD, hj2]
  have hall : ∀ y ∈ funs.getD j [], y.l.length ≤ 1000000 := by rw [hfg]; exact over_ll h _ (List.getElem_mem hj2)
  unfold qF at hx
  split at hx
  · rcases List.mem_or_eq_of_mem_set hx with h1 | h1
    · exact hall x h1
    · rw [h1]
      refine chgI_ll ?_
      rw [List.getD_eq_getElem?_getD]
      cases hq : (funs.getD j [])[at1.toNat]? with
      | none => simp
      | some y => exact hall y (List.mem_of_getElem? hq)
  · exact hall x hx

def aOK (s : (Int × Int × Int × Int) × Bool) : Prop := s.1.1 = 0 ∨ s.1.1 = 1 ∨ s.1.1 = 2
theorem aOK_ite {c : Prop} [Decidable c] {x y : (Int × Int × Int × Int) × Bool} (hx : aOK x) (hy : aOK y) : aOK (if c then x else y) := by split <;> assumption
theorem shape_a (op : Int) : (shape op).1.1 = 0 ∨ (shape op).1.1 = 1 ∨ (shape op).1.1 = 2 := by
  show aOK (shape op)
  unfold shape
  repeat' (refine aOK_ite ?_ ?_)
  all_goals (unfold aOK; simp)
theorem shape99 : (shape 99).2 = false := by decide

theorem one_bad {C : Nat} {ks : List Int} {kind : Int} {g : Nat} {x : InsD} (hn : ¬ Int.tmod how 3 < 0) : oneD C ks g kind (chgI g how x) = false := by
  unfold chgI
  rcases tmod3 how with ⟨h0, _, _, _⟩ | ⟨h0, h1, _, _⟩ | ⟨h0, h1, h2, _⟩ | ⟨_, _, _, h3⟩
  · rw [if_pos h0]
    simp [oneD, oneI, shape99]
  · rw [if_neg h0, if_pos h1]
    simp [oneD, oneI, outP]
  · rw [if_neg h0, if_neg h1, if_pos h2]
    have hf : fieldI C ks (shape x.op).1.1 16 = false := by
      rcases shape_a x.op with h | h | h <;> rw [h] <;> simp [fieldI]
    simp [oneD, oneI, hf]
  · exact absurd h3 hn

theorem one_false (hn : ¬ Int.tmod how 3 < 0) (e3 : ¬ fn < 0) (e4 : ¬ (funs.length : Int) ≤ fn) (e5 : ¬ at1 < 0) (e6 : ¬ ((funs.getD fn.toNat []).length : Int) ≤ at1) : validB ((List.range funs.length).map (qF funs fn at1 how)) cos = false := by
  have hj : fn.toNat < funs.length := by omega
  have hat : at1.toNat < (funs.getD fn.toNat []).length := by omega
  have hget : ((List.range funs.length).map (qF funs fn at1 how)).getD fn.toNat [] = qF funs fn at1 how fn.toNat := by
    simp [List.getD, hj]
  unfold validB
  refine Bool.and_eq_false_iff.2 (.inr (List.all_eq_false.2 ⟨fn.toNat, List.mem_range.2 (by simpa using hj), ?_⟩))
  rw [hget]
  have hq : qF funs fn at1 how fn.toNat = (funs.getD fn.toNat []).set at1.toNat (chgI (funs.getD fn.toNat []).length how ((funs.getD fn.toNat []).getD at1.toNat ⟨0, 0, 0, 0, []⟩)) := by
    unfold qF; rw [if_pos (by omega)]
  have hall : ∀ C ks kind, (qF funs fn at1 how fn.toNat).all (oneD C ks (qF funs fn at1 how fn.toNat).length kind) = false := by
    intro C ks kind
    refine List.all_eq_false.2 ⟨chgI (funs.getD fn.toNat []).length how ((funs.getD fn.toNat []).getD at1.toNat ⟨0, 0, 0, 0, []⟩), ?_, ?_⟩
    · rw [hq]; exact List.mem_set hat _
    · rw [qF_len, one_bad hn]; decide
  simp only [rightB, hall, Bool.and_false, Bool.false_and]
  decide
end

theorem qF_at {funs : List (List InsD)} {fn at1 how : Int} (hf : fn.toNat < funs.length) (h0 : 0 ≤ fn) (hat : at1.toNat < funs[fn.toNat].length) :
    qF funs fn at1 how fn.toNat = funs[fn.toNat].set at1.toNat (chgI funs[fn.toNat].length how (funs[fn.toNat][at1.toNat])) := by
  have hg : funs.getD fn.toNat [] = funs[fn.toNat] := by simp [List.getD, hf]
  unfold qF
  rw [if_pos (by omega), hg]
  congr 2
  simp [List.getD, hat]
theorem qF_not {funs : List (List InsD)} {fn at1 how : Int} {i : Nat} (hf : i < funs.length) (h : ¬ (i : Int) = fn) : qF funs fn at1 how i = funs[i] := by
  unfold qF
  rw [if_neg h]
  simp [List.getD, hf]

/-- Rows of data. -/
def allPu (es : List (List V)) : Prop := ∀ e ∈ es, ∀ y ∈ e, Pu y
theorem ins_pu (f : List InsD) : allPu (f.map insC) := by
  intro e he y hy
  obtain ⟨x, _, rfl⟩ := List.mem_map.1 he
  simp only [insC, List.mem_cons, List.not_mem_nil, or_false] at hy
  rcases hy with rfl | rfl | rfl | rfl | rfl <;> trivial
theorem rows_pu (l : List Nat) (g : Nat → List InsD) : allPu (l.map fun j => funC (g j)) := by
  intro e he y hy
  obtain ⟨j, _, rfl⟩ := List.mem_map.1 he
  rw [List.mem_singleton.1 hy]; trivial
theorem allR_pu {lk : Nat → Ob} {sel : List Nat} : ∀ {es : List (List V)}, allPu es → allR (RetP lk sel) es es
  | [], _ => trivial
  | e :: es, h => by
    refine ⟨?_, allR_pu fun x hx => h x (List.mem_cons_of_mem _ hx)⟩
    have he := h e List.mem_cons_self
    clear h
    induction e with
    | nil => trivial
    | cons y e ih => exact ⟨.pu (he y List.mem_cons_self), ih fun z hz => he z (List.mem_cons_of_mem _ hz)⟩
theorem allR_puV {lk : Nat → Ob} {vs : List Nat} : ∀ {es : List (List V)}, allPu es → allR (View lk vs) es es
  | [], _ => trivial
  | e :: es, h => by
    refine ⟨?_, allR_puV fun x hx => h x (List.mem_cons_of_mem _ hx)⟩
    have he := h e List.mem_cons_self
    clear h
    induction e with
    | nil => trivial
    | cons y e ih => exact ⟨.pu (he y List.mem_cons_self), ih fun z hz => he z (List.mem_cons_of_mem _ hz)⟩
theorem allR_app {R : V → V → Prop} : ∀ {a b a' b' : List (List V)}, allR R a a' → allR R b b' → allR R (a ++ b) (a' ++ b')
  | [], _, [], _, _, h => h
  | _ :: _, _, _ :: _, _, h1, h2 => ⟨h1.1, allR_app h1.2 h2⟩
  | [], _, _ :: _, _, h, _ => h.elim
  | _ :: _, _, [], _, h, _ => h.elim
theorem allR_set {R : V → V → Prop} {x y : List V} (hxy : allP R x y) : ∀ {a b : List (List V)} (k : Nat), allR R a b → allR R (a.set k x) (b.set k y)
  | [], [], _, _ => trivial
  | _ :: _, _ :: _, 0, h => ⟨hxy, h.2⟩
  | _ :: _, _ :: _, k + 1, h => ⟨h.1, allR_set hxy k h.2⟩
  | [], _ :: _, _, h => h.elim
  | _ :: _, [], _, h => h.elim
end Go.Proofs.Tryd
end
section
namespace Go.Proofs.Tryd
open Go Go.AM

def iLoad (b : Int) : InsD := ⟨3, 1, b, 0, []⟩
def iEnd : InsD := ⟨29, 0, 0, 0, []⟩

theorem shape3 : shape 3 = ((2, 1, 0, 0), true) := by decide
theorem shape29 : shape 29 = ((0, 0, 0, 0), true) := by decide
theorem kinds1e : kindsL 1 [] = [0] := by decide
theorem reads_load (b : Int) : readsD (iLoad b) = [b] := by simp [readsD, iLoad, rdl, shape3, rd]
theorem reads_end : readsD iEnd = [] := by simp [readsD, iEnd, rdl, shape29, rd]

theorem ways_p : waysB [iLoad 0, iEnd] (startS 1) = true := by
  have h0 : ∀ p S, Reach [iLoad 0, iEnd] (startS 1) p S → S 0 := by
    intro p S h
    induction h with
    | start => exact ⟨by decide, by decide⟩
    | step h hp hx hq ih => exact .inl ih
  unfold waysB
  refine @decide_eq_true _ (Classical.propDecidable _) fun p S h x hp hx r hr => ?_
  have hxm := List.mem_of_getElem? hx
  simp only [List.mem_cons, List.not_mem_nil, or_false] at hxm
  rcases hxm with rfl | rfl
  · rw [reads_load, List.mem_singleton] at hr; rw [hr]; exact h0 p S h
  · rw [reads_end] at hr; cases hr

theorem ways_q : waysB [iLoad 2, iEnd] (startS 1) = false := by
  unfold waysB
  refine @decide_eq_false _ (Classical.propDecidable _) fun h => ?_
  have := h 0 (startS 1) .start (iLoad 2) (by decide) rfl 2 (by rw [reads_load]; exact List.mem_singleton.2 rfl)
  have h2 := this.2
  revert h2
  decide

theorem valid_of (b : Int) (hb : 0 ≤ b ∧ b < 16) : validB [[iLoad b, iEnd]] [] = waysB [iLoad b, iEnd] (startS 1) := by
  have h1 : oneD 0 [0] 2 0 (iLoad b) = true := by
    simp [oneD, oneI, iLoad, shape3, fieldI, allowedI, hb]
  have h2 : oneD 0 [0] 2 0 iEnd = true := by decide
  have h3 : lastFalls [iLoad b, iEnd] = false := (show fallsI 29 = false by decide)
  simp only [validB, List.length_cons, List.length_nil, kinds1e, List.all_nil, Nat.zero_add]
  rw [show List.range 1 = [0] from rfl]
  simp only [List.all_cons, List.all_nil, Bool.and_true, List.getD_cons_zero, rightB, List.length_cons, List.length_nil, Nat.zero_add, h3, List.length_nil]
  rw [show (0 : Nat) + 1 + 1 = 2 from rfl] at *
  simp [h1, h2]

theorem valid_p : validB [[iLoad 0, iEnd]] [] = true := by rw [valid_of 0 (by decide), ways_p]
theorem valid_q : validB [[iLoad 2, iEnd]] [] = false := by rw [valid_of 2 (by decide), ways_q]
theorem text_e : progT smallS [[iEnd]] [] = [102, 117, 110, 10, 50, 57, 32, 48, 32, 48, 32, 48, 10] := by decide
theorem falls3 : fallsI 3 = true := by decide
end Go.Proofs.Tryd
end
section
namespace Go.Proofs.Tryd
open Go Go.AM
attribute [local simp] wpG_op wpG_nil contG_some wpG_guard guardG_v guardG_o guardG_tup gval pureOp stepG_if isPick pickG_pick pickB_b pickOK isCall step_move step_assign step_alloc step_box boxV_some step_load step_store step_binOp step_unOp step_fieldAddr faV step_indexAddr ixA_slc ixA_arr step_extract extV_tup step_nilCheck ncV_ptr ncV_rp ncV_fn ncV_mp step_build buildV step_buildSlice bsV step_index ixV_arr ixV_str step_append apB step_makeSlice msV_i step_makeFunc over step_len step_makeMap mmV step_mapUpdate step_insert muA_map muB_mp step_lookup lkA_map lkB_mp step_slice slcV_s slcV_sl slcV_ro cutB_some slObV_arr bound_none bound_some bndV_i lenB_str lenB_ro lenB_sl lenB_nil lenB_z ld_ptr ld_rp offV_ptr offV_rp idxV_ro idxV_sl unV_not unV_neg binV_int binV_str binV_eqlb binV_neqb intOp strOp St.put updL setOb St.ev toV St.lk cellsOf AM.valOf TK.agg stv fillV places TI.zero condT_true condT_false finS resL resSlot packV ren ren1 ren0 Value.cells builtinV appendV elemsOf keepT room_of wrap_in toIdx passed Function.comp_def take_len_map lenV touchOf hid tab1 tab2 tab3 tab4 tab5 tab6 tab7 tab8 tab9 tab10 tab11 tab12 tab13 tab14 tab15 tab16 tab17 tab18 tab19 tab20 tab21 tab22 tab23 tab24 tab25 tab26 tab28 tab29 tab30 tab31 tab32 tab33 tab34 tab35 tab36 tab37 tab38 tab39 tab40 tab41 tab42 tab43 tab44 tab45 tab46 tab48 tab49 tab50 tab51 tab52 tab53 tab54 tab55 tab56 tab57 tab58 tab59 tab60 tab61 tab62 tab63 tab64 tab65 tab67 tab68 tab69 tab70 tab71 tab72 tab73 tab74 tab75 tab76 tab77 tab78 tab79 tab80 tab81 tab82 tab83 tab84 tab85 tab86 tab89 tab90 tab91 tab92 tab93 tab94 tab95 tab96 tab98 tab99 tab100 tab101 tab102 tab103 tab104 tab105 tab106 tab107 tab108 tab109 tab113 tab114 tab115 tab116 tab117 tab118 tab119 tab120 ren_arr ren_gone ren_unborn ren_var ren_row
set_option linter.unusedSimpArgs false
set_option maxRecDepth 10000
set_option maxHeartbeats 4000000

theorem walk10 : QC prog 10 [] [] (.b true) [] := by
  refine QC.of_body tabOK func10 rfl (by kernel_rfl) ?_
  simp only [f10]
  refine EV.seq ?_
  refine EV.regionG tabOK ?_ -- region 0
  simp -implicitDefEqProofs
  refine EV.seq ?_
  refine EV.regionG tabOK ?_ -- region 1
  simp -implicitDefEqProofs [List.range_succ]
  refine EV.sub (σ' := ⟨[.junk, .ptr 0 0 0 0, .junk, .junk, .junk, .junk, .junk, .junk, .junk, .junk, .junk, .junk, .junk, .junk, .junk, .junk, .junk, .junk, .junk, .junk, .junk, .junk, .junk, .junk, .junk, .junk, .junk, .junk, .junk, .junk, .junk, .junk, .junk, .junk, .junk, .junk, .junk, .junk, .junk, .junk, .junk, .junk, .junk, .junk, .junk, .junk, .junk, .junk, .junk, .junk, .junk, .junk, .junk, .junk, .junk, .junk, .junk, .junk, .junk, .junk, .junk, .junk, .junk, .junk, .junk, .junk, .junk, .junk, .junk, .junk, .junk, .junk, .junk, .junk, .junk, .junk, .junk, .junk, .junk, .junk, .junk, .junk, .junk, .junk], [.arr 0 2 [[.ro 1 [[V.ro 5 [[n 3, n 1, n 0, n 0, .ro 1 []], [n 29, n 0, n 0, n 0, .ro 1 []]]]], .ro 5 []]]]⟩) (Sub.adoptR [2] [false, true, false, false, false, false, false, false, false, false, false, false, false, false, false, false, false, false, false, false, false, false, false, false, false, false, false, false, false, false, false, false, false, false, false, false, false, false, false, false, false, false, false, false, false, false, false, false, false, false, false, false, false, false, false, false, false, false, false, false, false, false, false, false, false, false, false, false, false, false, false, false, false, false, false, false, false, false, false, false, false, false, false, false] 0 2 [[.ro 1 [[V.ro 5 [[n 3, n 1, n 0, n 0, .ro 1 []], [n 29, n 0, n 0, n 0, .ro 1 []]]]], .ro 5 []]] (by decide) (by simp) rfl rfl (by simp) ?_ ?_ ?_) ?_
  · exact ⟨⟨RetP.rows (by decide) rfl rfl (by simp) ⟨⟨RetP.rows (by decide) rfl rfl (by simp) ⟨⟨.pu trivial, .pu trivial, .pu trivial, .pu trivial, .nil 1, trivial⟩, ⟨.pu trivial, .pu trivial, .pu trivial, .pu trivial, .nil 1, trivial⟩, trivial⟩, trivial⟩, trivial⟩, .nil 5, trivial⟩, trivial⟩
  · simp [keepT, toIdx]
  · simp [passed, toIdx, setOb]
  refine EV.seq ?_
  refine EV.regionG tabOK ?_ -- region 2
  simp -implicitDefEqProofs
  refine callG_fun (walk11 3 1 0 0 []) ?_ ?_
  · simp [insV]
  simp -implicitDefEqProofs [shape3]
  refine EV.seq ?_
  refine EV.regionG tabOK ?_ -- region 3
  simp -implicitDefEqProofs
  refine callG_fun (walk14 3 1 0 0 []) ?_ ?_
  · simp [insV]
  simp -implicitDefEqProofs [rdl, rd, shape3]
  refine EV.seq ?_
  refine EV.regionG tabOK ?_ -- region 4
  simp -implicitDefEqProofs
  refine callG_fun (walk19 [[V.ro 5 [[n 3, n 1, n 0, n 0, .ro 1 []], [n 29, n 0, n 0, n 0, .ro 1 []]]]] [] (by simp) (by simp)) ?_ ?_
  · simp
  simp -implicitDefEqProofs [kinds1e]
  refine EV.seq ?_
  refine EV.regionG tabOK ?_ -- region 5
  simp -implicitDefEqProofs [List.range_succ]
  refine EV.sub (σ' := ⟨[.junk, .ptr 0 0 0 0, n 1, .b true, .ro 1 [[n 0]], .ro 1 [[n 0]], .ptr 1 0 0 0, .junk, .junk, .junk, .junk, .junk, .junk, .junk, .junk, .junk, .junk, .junk, .junk, .junk, .junk, .junk, .junk, .junk, .junk, .junk, .junk, .junk, .junk, .junk, .junk, .junk, .junk, .junk, .junk, .junk, .junk, .junk, .junk, .junk, .junk, .junk, .junk, .junk, .junk, .junk, .junk, .junk, .junk, .junk, .junk, .junk, .junk, .junk, .junk, .junk, .junk, .junk, .junk, .junk, .junk, .junk, .junk, .junk, .junk, .junk, .junk, .junk, .junk, .junk, .junk, .junk, .junk, .junk, .junk, .junk, .junk, .junk, .junk, .junk, .junk, .junk, .junk, .junk], [.arr 0 2 [[.ro 1 [[V.ro 5 [[n 3, n 1, n 0, n 0, .ro 1 []], [n 29, n 0, n 0, n 0, .ro 1 []]]]], .ro 5 []]], .arr 0 2 [[.ro 1 [[V.ro 5 [[n 3, n 1, n 2, n 0, .ro 1 []], [n 29, n 0, n 0, n 0, .ro 1 []]]]], .ro 5 []]]]⟩) (Sub.adoptR [0, 3] [false, true, true, true, true, true, true, false, false, false, false, false, false, false, false, false, false, false, false, false, false, false, false, false, false, false, false, false, false, false, false, false, false, false, false, false, false, false, false, false, false, false, false, false, false, false, false, false, false, false, false, false, false, false, false, false, false, false, false, false, false, false, false, false, false, false, false, false, false, false, false, false, false, false, false, false, false, false, false, false, false, false, false, false] 1 3 [[.ro 1 [[V.ro 5 [[n 3, n 1, n 2, n 0, .ro 1 []], [n 29, n 0, n 0, n 0, .ro 1 []]]]], .ro 5 []]] (by decide) (by simp) rfl rfl (by simp) ?_ ?_ ?_) ?_
  · exact ⟨⟨RetP.rows (by decide) rfl rfl (by simp) ⟨⟨RetP.rows (by decide) rfl rfl (by simp) ⟨⟨.pu trivial, .pu trivial, .pu trivial, .pu trivial, .nil 1, trivial⟩, ⟨.pu trivial, .pu trivial, .pu trivial, .pu trivial, .nil 1, trivial⟩, trivial⟩, trivial⟩, trivial⟩, .nil 5, trivial⟩, trivial⟩
  · simp [keepT, toIdx]
  · simp [passed, toIdx, setOb]
  refine EV.seq ?_
  have hI : ∀ z, ((∃ c ∈ ([] : List CoD), z = c.res ∨ z = c.can ∨ z = c.words ∨ z = c.args) ∨ ∃ f ∈ [[iEnd]], ∃ x ∈ f, z ∈ rowI x) → QC prog 44 [.i .i64 z] [] (.s (smallS z)) [] := by
    rintro z (⟨c, hc, _⟩ | ⟨f, hf, x, hx, hz⟩)
    · cases hc
    · rw [List.mem_singleton.1 hf] at hx
      rw [List.mem_singleton.1 hx] at hz
      have hz2 : z = 29 ∨ z = 0 := by simp [rowI, iEnd] at hz; omega
      rcases hz2 with rfl | rfl
      · exact walk44 29 (by decide) (by decide)
      · exact walk44 0 (by decide) (by decide)
  refine EV.regionG tabOK ?_ -- region 6
  simp -implicitDefEqProofs +contextual [valid_p]
  refine callG_fun (walk21 [[iLoad 0, iEnd]] [] (by simp [iLoad, iEnd])) ?_ ?_
  · simp [funC, insC, iLoad, iEnd]
  simp -implicitDefEqProofs [valid_p]
  refine callG_fun (walk21 [[iLoad 2, iEnd]] [] (by simp [iLoad, iEnd])) ?_ ?_
  · simp [funC, insC, iLoad, iEnd]
  simp -implicitDefEqProofs [valid_q, List.range_succ]
  refine callG_lend [2, 3] (cs' := [.ro 1 ([[iEnd]].map funC), .ro 5 (([] : List CoD).map coV)]) rfl (walk23 smallS [[iEnd]] [] hI (by rw [text_e]; simp) (by simp) (by simp) (by simp) (by simp [iEnd])) ?_ trivial ?_
  · exact ⟨View.rows (by decide) rfl rfl (by simp [funC]) ⟨⟨View.rows (by decide) rfl rfl (by simp [insC]) ⟨⟨.pu trivial, .pu trivial, .pu trivial, .pu trivial, .nil 1, trivial⟩, trivial⟩, trivial⟩, trivial⟩, .nil 5, trivial⟩
  simp -implicitDefEqProofs [text_e]
  refine callG_lend [] (cs' := [n 3, n 0, n 0, n 0, .ro 1 ([].map fun z => [n z])]) rfl (walk16 3 0 0 0 []) ?_ trivial ?_
  · exact ⟨.pu trivial, .pu trivial, .pu trivial, .pu trivial, .nil 1, trivial⟩
  simp -implicitDefEqProofs [falls3]
  refine EV.ret ?_
  simp only [thenK_ret, blockK_ret, scopeK_ret, bodyK_ret]
  refine Fin.pure0 ?_
  simp

end Go.Proofs.Tryd
end
section
namespace Go.Proofs.Tryd
open Go Go.AM

theorem list_form {A B : Type} (g : A → B) : ∀ (es : List B), (∀ l ∈ es, ∃ a, l = g a) → ∃ l : List A, es = l.map g
  | [], _ => ⟨[], rfl⟩
  | e :: es, h => by
    obtain ⟨a, ha⟩ := h e List.mem_cons_self
    obtain ⟨r, hr⟩ := list_form g es fun l hl => h l (List.mem_cons_of_mem _ hl)
    exact ⟨a :: r, by rw [ha, hr]; rfl⟩

theorem shp_i64 {k : Nat} {t : TypeId} {xs : List V} (ht : (tab t).kind = .int .i64) (h : shp tab (k + 1) t xs) : ∃ m, xs = [n m] := by
  unfold shp at h
  rw [ht] at h
  obtain ⟨m, _, h⟩ := h
  exact ⟨m, h⟩

theorem shp_ints {k : Nat} {t : TypeId} {xs : List V} (ht : (tab t).kind = .slc 3) (h : shp tab (k + 2) t xs) : ∃ l : List Int, xs = [.ro 1 (l.map fun z => [n z])] := by
  unfold shp at h
  rw [ht] at h
  obtain ⟨es, _, h1, h2⟩ := h
  obtain ⟨l, hl⟩ := list_form (fun z : Int => [n z]) es fun r hr => shp_i64 (t := 3) rfl (h2 r hr)
  exact ⟨l, by rw [h1, hl]; rfl⟩

theorem shp_ins {k : Nat} {xs : List V} (h : shp tab (k + 3) 25 xs) : ∃ (op a b c : Int) (l : List Int), xs = [n op, n a, n b, n c, .ro 1 (l.map fun z => [n z])] := by
  unfold shp at h
  rw [show (tab 25).kind = .str [(0, 22), (1, 3), (2, 3), (3, 3), (4, 23)] from rfl] at h
  obtain ⟨yss, h1, h2, h3⟩ := h
  match yss, h2 with
  | [y0, y1, y2, y3, y4], _ =>
    obtain ⟨op, rfl⟩ := shp_i64 (t := 22) rfl (h3 0 _ _ rfl rfl)
    obtain ⟨a, rfl⟩ := shp_i64 (t := 3) rfl (h3 1 _ _ rfl rfl)
    obtain ⟨b, rfl⟩ := shp_i64 (t := 3) rfl (h3 2 _ _ rfl rfl)
    obtain ⟨c, rfl⟩ := shp_i64 (t := 3) rfl (h3 3 _ _ rfl rfl)
    obtain ⟨l, rfl⟩ := shp_ints (t := 23) rfl (h3 4 _ _ rfl rfl)
    exact ⟨op, a, b, c, l, by rw [h1]; rfl⟩
end Go.Proofs.Tryd
end
section
namespace Go.Proofs.Tryd
open Go Go.AM

theorem shp_str {k : Nat} {t : TypeId} {xs : List V} (ht : (tab t).kind = .string) (h : shp tab (k + 1) t xs) : ∃ s, xs = [.s s] := by
  unfold shp at h
  rw [ht] at h
  obtain ⟨s, _, h⟩ := h
  exact ⟨s, h⟩

theorem shp_insC {k : Nat} {xs : List V} (h : shp tab (k + 3) 25 xs) : ∃ x : InsD, xs = insC x := by
  obtain ⟨op, a, b, c, l, rfl⟩ := shp_ins h
  exact ⟨⟨op, a, b, c, l⟩, rfl⟩

theorem shp_co {k : Nat} {xs : List V} (h : shp tab (k + 2) 53 xs) : ∃ c : CoD, xs = coV c := by
  unfold shp at h
  rw [show (tab 53).kind = .str [(0, 9), (1, 3), (2, 3), (3, 3), (4, 3)] from rfl] at h
  obtain ⟨yss, h1, h2, h3⟩ := h
  match yss, h2 with
  | [y0, y1, y2, y3, y4], _ =>
    obtain ⟨nm, rfl⟩ := shp_str (t := 9) rfl (h3 0 _ _ rfl rfl)
    obtain ⟨a, rfl⟩ := shp_i64 (t := 3) rfl (h3 1 _ _ rfl rfl)
    obtain ⟨b, rfl⟩ := shp_i64 (t := 3) rfl (h3 2 _ _ rfl rfl)
    obtain ⟨c, rfl⟩ := shp_i64 (t := 3) rfl (h3 3 _ _ rfl rfl)
    obtain ⟨d, rfl⟩ := shp_i64 (t := 3) rfl (h3 4 _ _ rfl rfl)
    exact ⟨⟨nm, a, b, c, d⟩, by rw [h1]; rfl⟩

theorem shp_prog {k : Nat} {xs : List V} (h : shp tab (k + 6) 35 xs) : ∃ (funs : List (List InsD)) (cos : List CoD), xs = [.ro 1 (funs.map funC), .ro 5 (cos.map coV)] := by
  unfold shp at h
  rw [show (tab 35).kind = .str [(0, 32), (1, 33)] from rfl] at h
  obtain ⟨yss, h1, h2, h3⟩ := h
  match yss, h2 with
  | [y0, y1], _ =>
    have hf := h3 0 _ _ rfl rfl
    have hc := h3 1 _ _ rfl rfl
    unfold shp at hf hc
    rw [show (tab 32).kind = .slc 39 from rfl] at hf
    rw [show (tab 33).kind = .slc 53 from rfl] at hc
    obtain ⟨es, _, rfl, hes⟩ := hf
    obtain ⟨ds, _, rfl, hds⟩ := hc
    obtain ⟨funs, rfl⟩ := list_form funC es fun r hr => by
      have hr2 := hes r hr
      unfold shp at hr2
      rw [show (tab 39).kind = .slc 25 from rfl] at hr2
      obtain ⟨is, _, rfl, his⟩ := hr2
      obtain ⟨f, rfl⟩ := list_form insC is fun q hq => shp_insC (his q hq)
      exact ⟨f, rfl⟩
    obtain ⟨cos, rfl⟩ := list_form coV ds fun r hr => shp_co (hds r hr)
    exact ⟨funs, cos, by rw [h1]; rfl⟩
end Go.Proofs.Tryd
end
