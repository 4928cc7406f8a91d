/- It does not matter which registers are used: CodeRename, tied. No conditions. -/
import Derived.Test.YtaklafpfbhaoaaaDoorWalkD
import Derived.Test.YtaklafpfbhaoaaaDoorEndA
set_option linter.unusedVariables false
set_option linter.unusedSimpArgs false
set_option linter.constructorNameAsVariable false
section
namespace Go.Proofs.Tryd
open Go Go.AM

def renI (x : InsD) : InsD :=
  { x with
    a := if (shape x.op).1.1 = 1 ∨ (shape x.op).1.1 = 2 then turnedI x.a else x.a
    b := if (shape x.op).1.2.1 = 1 then turnedI x.b else x.b
    c := if (shape x.op).1.2.2.1 = 1 then turnedI x.c else x.c }

/-- The six ways in which an instruction uses registers. -/
def sixP (s : (Int × Int × Int × Int) × Bool) : Prop :=
  (s.1.1 = 0 ∧ ¬ s.1.2.1 = 1 ∧ ¬ s.1.2.2.1 = 1) ∨ (s.1.1 = 1 ∧ ¬ s.1.2.1 = 1 ∧ ¬ s.1.2.2.1 = 1) ∨ (s.1.1 = 1 ∧ s.1.2.1 = 1 ∧ ¬ s.1.2.2.1 = 1) ∨
    (s.1.1 = 2 ∧ ¬ s.1.2.1 = 1 ∧ ¬ s.1.2.2.1 = 1) ∨ (s.1.1 = 2 ∧ s.1.2.1 = 1 ∧ ¬ s.1.2.2.1 = 1) ∨ (s.1.1 = 2 ∧ s.1.2.1 = 1 ∧ s.1.2.2.1 = 1)
theorem sixP_ite {c : Prop} [Decidable c] {x y : (Int × Int × Int × Int) × Bool} (hx : sixP x) (hy : sixP y) : sixP (if c then x else y) := by split <;> assumption
theorem six (op : Int) : sixP (shape op) := by
  unfold shape
  repeat' (refine sixP_ite ?_ ?_)
  all_goals (unfold sixP; simp)

theorem turned_turned (r : Int) : turnedI (turnedI r) = r := by unfold turnedI; split <;> (try split) <;> omega
theorem turned_in (r : Int) : (decide (0 ≤ turnedI r) && decide (turnedI r < 16)) = (decide (0 ≤ r) && decide (r < 16)) := by
  unfold turnedI
  split
  · rfl
  · have h1 : 0 ≤ 16 - r ∧ 16 - r < 16 := by omega
    have h2 : 0 ≤ r ∧ r < 16 := by omega
    rw [decide_eq_true h1.1, decide_eq_true h1.2, decide_eq_true h2.1, decide_eq_true h2.2]
theorem turned_swap {r s : Int} : turnedI r = s ↔ r = turnedI s := by
  constructor
  · intro h; rw [← h, turned_turned]
  · intro h; rw [h, turned_turned]

theorem ren_op (x : InsD) : (renI x).op = x.op := rfl
theorem ren_l (x : InsD) : (renI x).l = x.l := rfl
theorem ren_writes (x : InsD) : writesD (renI x) = writesD x := rfl
theorem ren_next (x : InsD) (p : Int) : nextD (renI x) p = nextD x p := rfl
theorem ren_a {x : InsD} (h : writesD x = true) : (renI x).a = turnedI x.a := by
  have : (shape x.op).1.1 = 2 := of_decide_eq_true h
  simp [renI, this]
theorem ren_ren (x : InsD) : renI (renI x) = x := by
  have h : ∀ (c : Prop) [Decidable c] (v : Int), (if c then turnedI (if c then turnedI v else v) else (if c then turnedI v else v)) = v := by
    intro c _ v; split
    · exact turned_turned v
    · rfl
  unfold renI
  simp only [h]
theorem ren_reads (x : InsD) : readsD (renI x) = (readsD x).map turnedI := by
  unfold readsD rdl rd
  simp only [ren_op]
  unfold renI
  rcases six x.op with ⟨h1, h2, h3⟩ | ⟨h1, h2, h3⟩ | ⟨h1, h2, h3⟩ | ⟨h1, h2, h3⟩ | ⟨h1, h2, h3⟩ | ⟨h1, h2, h3⟩ <;> simp [h1, h2, h3]
theorem field_turned {C : Nat} {ks : List Int} {f v : Int} (hf : f = 1 ∨ f = 2) : fieldI C ks f (turnedI v) = fieldI C ks f v := by
  unfold fieldI
  rw [if_pos hf, if_pos hf]
  exact turned_in v
theorem ren_one (C : Nat) (ks : List Int) (g : Nat) (kind : Int) (x : InsD) : oneD C ks g kind (renI x) = oneD C ks g kind x := by
  have ha : fieldI C ks (shape x.op).1.1 (renI x).a = fieldI C ks (shape x.op).1.1 x.a := by
    show fieldI C ks (shape x.op).1.1 (if _ then _ else _) = _
    split
    · exact field_turned (by assumption)
    · rfl
  have hb : fieldI C ks (shape x.op).1.2.1 (renI x).b = fieldI C ks (shape x.op).1.2.1 x.b := by
    show fieldI C ks (shape x.op).1.2.1 (if _ then _ else _) = _
    split
    · exact field_turned (.inl (by assumption))
    · rfl
  have hc : fieldI C ks (shape x.op).1.2.2.1 (renI x).c = fieldI C ks (shape x.op).1.2.2.1 x.c := by
    show fieldI C ks (shape x.op).1.2.2.1 (if _ then _ else _) = _
    split
    · exact field_turned (.inl (by assumption))
    · rfl
  unfold oneD oneI
  rw [ren_op, ren_l, ha, hb, hc]

theorem ren_reach {f : List InsD} {S0 : Int → Prop} (h0 : ∀ r, S0 r ↔ S0 (turnedI r)) {p : Int} {S : Int → Prop} (h : Reach (f.map renI) S0 p S) : ∃ S', Reach f S0 p S' ∧ ∀ r, S r ↔ S' (turnedI r) := by
  induction h with
  | start => exact ⟨S0, .start, h0⟩
  | @step p q S x h hp hx hq ih =>
    obtain ⟨S', h1, h2⟩ := ih
    rw [List.getElem?_map, Option.map_eq_some_iff] at hx
    obtain ⟨y, hy, rfl⟩ := hx
    refine ⟨_, .step h1 hp hy (by rw [← ren_next y]; exact hq), fun r => ?_⟩
    rw [ren_writes]
    constructor
    · rintro (h3 | ⟨h3, h4⟩)
      · exact .inl ((h2 r).1 h3)
      · exact .inr ⟨h3, by rw [ren_a h3] at h4; exact turned_swap.2 h4⟩
    · rintro (h3 | ⟨h3, h4⟩)
      · exact .inl ((h2 r).2 h3)
      · exact .inr ⟨h3, by rw [ren_a h3]; exact turned_swap.1 h4⟩

theorem ren_ways1 {f : List InsD} {S0 : Int → Prop} (h0 : ∀ r, S0 r ↔ S0 (turnedI r)) (h : WaysOK f S0) : WaysOK (f.map renI) S0 := by
  intro p S hr x hp hx r hr2
  obtain ⟨S', h1, h2⟩ := ren_reach h0 hr
  rw [List.getElem?_map, Option.map_eq_some_iff] at hx
  obtain ⟨y, hy, rfl⟩ := hx
  rw [ren_reads, List.mem_map] at hr2
  obtain ⟨r0, hr0, rfl⟩ := hr2
  rw [h2, turned_turned]
  exact h p S' h1 y hp hy r0 hr0
theorem map_ren_ren (f : List InsD) : (f.map renI).map renI = f := by
  rw [List.map_map]
  have : renI ∘ renI = id := by funext x; exact ren_ren x
  rw [this, List.map_id]
theorem ren_waysB {f : List InsD} {S0 : Int → Prop} (h0 : ∀ r, S0 r ↔ S0 (turnedI r)) : waysB (f.map renI) S0 = waysB f S0 := by
  have hiff : WaysOK (f.map renI) S0 ↔ WaysOK f S0 := ⟨fun h => by have := ren_ways1 h0 h; rwa [map_ren_ren] at this, ren_ways1 h0⟩
  unfold waysB
  by_cases h : WaysOK f S0
  · rw [@decide_eq_true _ (Classical.propDecidable _) h, @decide_eq_true _ (Classical.propDecidable _) (hiff.2 h)]
  · rw [@decide_eq_false _ (Classical.propDecidable _) h, @decide_eq_false _ (Classical.propDecidable _) (fun h2 => h (hiff.1 h2))]
theorem start_turned (k : Int) (r : Int) : startS (if k = 0 then 1 else 0) r ↔ startS (if k = 0 then 1 else 0) (turnedI r) := by
  have key : ∀ k0 : Nat, k0 = 1 ∨ k0 = 0 → (startS k0 r ↔ startS k0 (turnedI r)) := by
    rintro k0 (rfl | rfl)
    · unfold startS
      have h1 : ∀ s : Int, (0 ≤ s ∧ Nat.testBit 1 s.toNat = true) ↔ s = 0 := by
        intro s
        constructor
        · rintro ⟨h, h2⟩
          have h3 : s.toNat = 0 := Classical.byContradiction fun hne => by
            rw [show (1 : Nat) = 2 ^ 0 from rfl, Nat.testBit_two_pow] at h2
            have := of_decide_eq_true h2
            omega
          omega
        · rintro rfl; exact ⟨by decide, by decide⟩
      rw [h1, h1]
      unfold turnedI
      split <;> omega
    · unfold startS
      simp
  exact key _ (by split <;> simp)
theorem ren_falls (f : List InsD) : lastFalls (f.map renI) = lastFalls f := by
  unfold lastFalls
  rw [List.getLast?_map]
  cases f.getLast? <;> rfl
theorem ren_right (C : Nat) (ks : List Int) (kind : Int) (f : List InsD) : rightB C ks kind (f.map renI) = rightB C ks kind f := by
  have hall : (f.map renI).all (oneD C ks f.length kind) = f.all (oneD C ks f.length kind) := by
    rw [List.all_map]
    congr 1
    funext x
    exact ren_one C ks f.length kind x
  unfold rightB
  rw [List.length_map, ren_falls, hall, ren_waysB (start_turned kind)]
theorem ren_valid (funs : List (List InsD)) (cos : List CoD) : validB (funs.map fun f => f.map renI) cos = validB funs cos := by
  unfold validB
  rw [List.length_map]
  congr 1
  apply Bool.eq_iff_iff.2
  rw [List.all_eq_true, List.all_eq_true]
  have key : ∀ j, j < funs.length → (funs.map fun f => f.map renI).getD j [] = (funs.getD j []).map renI := by
    intro j hj
    simp [List.getD, hj]
  constructor
  · intro h j hj
    have := h j hj
    rw [key j (List.mem_range.1 hj), ren_right] at this
    exact this
  · intro h j hj
    rw [key j (List.mem_range.1 hj), ren_right]
    exact h j hj
end Go.Proofs.Tryd
end
section
namespace Go.Proofs.Tryd
open Go Go.AM
attribute [local simp] wpG_op wpG_nil contG_some wpG_guard guardG_v guardG_o guardG_tup gval pureOp stepG_if isPick pickG_pick pickB_b pickOK isCall step_move step_assign step_alloc step_box boxV_some step_load step_store step_binOp step_unOp step_fieldAddr faV step_indexAddr ixA_slc ixA_arr step_extract extV_tup step_nilCheck ncV_ptr ncV_rp ncV_fn ncV_mp step_build buildV step_buildSlice bsV step_index ixV_arr ixV_str step_append apB step_makeSlice msV_i step_makeFunc over step_len step_makeMap mmV step_mapUpdate step_insert muA_map muB_mp step_lookup lkA_map lkB_mp step_slice slcV_s slcV_sl slcV_ro cutB_some slObV_arr bound_none bound_some bndV_i lenB_str lenB_ro lenB_sl lenB_nil lenB_z ld_ptr ld_rp offV_ptr offV_rp idxV_ro idxV_sl unV_not unV_neg binV_int binV_str binV_eqlb binV_neqb intOp strOp St.put updL setOb St.ev toV St.lk cellsOf AM.valOf TK.agg stv fillV places TI.zero condT_true condT_false finS resL resSlot packV ren ren1 ren0 Value.cells builtinV appendV elemsOf keepT room_of wrap_in toIdx passed Function.comp_def take_len_map lenV touchOf hid tab1 tab2 tab3 tab4 tab5 tab6 tab7 tab8 tab9 tab10 tab11 tab12 tab13 tab14 tab15 tab16 tab17 tab18 tab19 tab20 tab21 tab22 tab23 tab24 tab25 tab26 tab28 tab29 tab30 tab31 tab32 tab33 tab34 tab35 tab36 tab37 tab38 tab39 tab40 tab41 tab42 tab43 tab44 tab45 tab46 tab48 tab49 tab50 tab51 tab52 tab53 tab54 tab55 tab56 tab57 tab58 tab59 tab60 tab61 tab62 tab63 tab64 tab65 tab67 tab68 tab69 tab70 tab71 tab72 tab73 tab74 tab75 tab76 tab77 tab78 tab79 tab80 tab81 tab82 tab83 tab84 tab85 tab86 tab89 tab90 tab91 tab92 tab93 tab94 tab95 tab96 tab98 tab99 tab100 tab101 tab102 tab103 tab104 tab105 tab106 tab107 tab108 tab109 tab113 tab114 tab115 tab116 tab117 tab118 tab119 tab120 ren_arr ren_gone ren_unborn
set_option linter.unusedSimpArgs false
set_option maxRecDepth 10000
set_option maxHeartbeats 4000000

set_option maxHeartbeats 40000000 -- HB
def funR (f : List InsD) : List V := [.ro 5 (f.map fun x => insC (renI x))]
theorem funR_eq : (funC ∘ fun f : List InsD => f.map renI) = funR := by funext f; simp [funC, funR, Function.comp_def]
theorem insR_pu (f : List InsD) : allPu (f.map fun x => insC (renI x)) := by
  have := ins_pu (f.map renI)
  rw [List.map_map] at this
  exact this
theorem rowsR_pu (l : List (List InsD)) : allPu (l.map funR) := by
  intro e he y hy
  obtain ⟨f, _, rfl⟩ := List.mem_map.1 he
  rw [List.mem_singleton.1 hy]; trivial
theorem renR_ll {funs : List (List InsD)} (h : ∀ f ∈ funs, ∀ x ∈ f, x.l.length ≤ 1000000) : ∀ f ∈ (funs.map fun f => f.map renI), ∀ x ∈ f, x.l.length ≤ 1000000 := by
  intro f hf x hx
  obtain ⟨g, hg, rfl⟩ := List.mem_map.1 hf
  obtain ⟨y, hy, rfl⟩ := List.mem_map.1 hx
  exact h g hg y hy
theorem six8 (op a b : Int) : ((shape op).1.1 = 0 ∧ ¬ (shape op).1.2.1 = 1 ∧ ¬ (shape op).1.2.2.1 = 1) ∨ ((shape op).1.1 = 1 ∧ ¬ (shape op).1.2.1 = 1 ∧ ¬ (shape op).1.2.2.1 = 1) ∨ ((shape op).1.1 = 1 ∧ (shape op).1.2.1 = 1 ∧ ¬ (shape op).1.2.2.1 = 1) ∨
    ((shape op).1.1 = 2 ∧ ¬ (shape op).1.2.1 = 1 ∧ ¬ (shape op).1.2.2.1 = 1) ∨ ((shape op).1.1 = 2 ∧ (shape op).1.2.1 = 1 ∧ ¬ (shape op).1.2.2.1 = 1 ∧ decide (b = a) = true) ∨ ((shape op).1.1 = 2 ∧ (shape op).1.2.1 = 1 ∧ ¬ (shape op).1.2.2.1 = 1 ∧ decide (b = a) = false) ∨
    ((shape op).1.1 = 2 ∧ (shape op).1.2.1 = 1 ∧ (shape op).1.2.2.1 = 1 ∧ decide (b = a) = true) ∨ ((shape op).1.1 = 2 ∧ (shape op).1.2.1 = 1 ∧ (shape op).1.2.2.1 = 1 ∧ decide (b = a) = false) := by
  have h := six op
  unfold sixP at h
  cases hba : decide (b = a) <;> simp <;> omega
theorem takeMap_next {α : Type} (g : α → List V) {l : List α} {i : Nat} (h : i < l.length) : List.take (i + 1) (l.map g) = List.take i (l.map g) ++ [g l[i]] := by
  have h5 : i < (l.map g).length := by simpa using h
  rw [← List.take_append_getElem h5]; simp
theorem funR_ren {μ : Nat → Option Nat} {f : List InsD} : List.map (ren0 μ) (funR f) = funR f := rfl
theorem insC_ren {μ : Nat → Option Nat} {x : InsD} : List.map (ren0 μ) (insC x) = insC x := rfl
attribute [local simp] funR_ren insC_ren
theorem walk7 (funs : List (List InsD)) (cos : List CoD) : QC prog 7 [.agg [.ro 1 (funs.map funC), .ro 5 (cos.map coV)]] [] (.b true) [] := by
  refine QC.of_body tabOK func7 rfl (by kernel_rfl) ?_
  simp only [f7]
  refine EV.seq ?_
  refine EV.regionG tabOK ?_ -- region 0
  simp -implicitDefEqProofs
  refine EV.seq ?_
  refine EV.regionG tabOK ?_ -- region 1
  simp -implicitDefEqProofs
  refine callG_fun (walk10) ?_ ?_
  · simp [insV]
  try simp -implicitDefEqProofs
  refine EV.seq ?_
  refine EV.seq ?_
  refine EV.regionG tabOK ?_ -- region 2
  simp -implicitDefEqProofs
  refine EV.condT ?_
  simp -implicitDefEqProofs
  refine EV.skip ?_
  simp only [thenK_normal, blockK_normal, scopeK_normal]
  refine EV.seq ?_
  refine EV.regionG tabOK ?_ -- region 4
  simp -implicitDefEqProofs
  refine callG_fun (walk18 funs cos) ?_ ?_
  · simp [insV]
  try simp -implicitDefEqProofs
  refine EV.seq ?_
  refine EV.seq ?_
  cases hov : overB funs cos
  · skip
    refine EV.regionG tabOK ?_ -- region 5
    simp -implicitDefEqProofs
    refine EV.condT ?_
    simp -implicitDefEqProofs
    refine EV.skip ?_
    simp only [thenK_normal, blockK_normal, scopeK_normal]
    refine EV.seq ?_
    refine EV.regionG tabOK ?_ -- region 7
    simp -implicitDefEqProofs
    refine EV.seq ?_
    refine EV.seq ?_
    refine EV.regionG tabOK ?_ -- region 8
    simp -implicitDefEqProofs
    refine EV.block ?_
    refine EV.loopB ((fun i => ⟨[.junk, .ptr 0 0 0 0, .junk, .b true, .junk, .ptr 1 0 0 0, n i.1, .junk, .junk, .junk, .junk, .junk, .junk, .junk, .junk, .junk, .junk, .junk, .junk, .junk, .junk, .junk, .junk, .junk, .junk, .junk, .junk, .junk, .junk, .junk, .junk, .junk, .junk, .junk, .junk, .junk, .junk, .junk, .junk, .junk, .junk, .junk, .junk, .junk, .junk, .junk, .junk, .junk, .junk, .junk, .junk, .junk, .junk, .junk, .junk, .junk, .junk, .junk, .junk, .junk, .junk, .junk, .junk, .junk, .junk, .junk, .junk, .junk, .junk, .junk, .junk, .junk, .junk, .junk, .junk, .junk, .junk, .junk, .junk, .junk, .junk, .junk, .junk, .junk, .junk, .junk, .junk, .junk, .junk, .junk, .junk, .junk, .junk, .junk, .junk, .junk, .junk, .junk, .junk, .junk, .junk, .junk, .junk, .junk, .junk, .junk, .junk, .junk, .junk, .junk, .junk, .junk, .junk, .junk, .junk, .junk, .junk, .junk, .junk, .junk, .junk, .junk, .junk, .junk, .junk, .junk, .junk, .junk, .junk, .junk, .junk, .junk, .junk, .junk, .junk, .junk, .junk, .junk, .junk, .junk, .junk, .junk, .junk, .junk, .junk, .junk, .junk, .junk, .junk, .junk, .junk, .junk], [.arr 0 2 [[.ro 1 (funs.map funC), .ro 5 (cos.map coV)]], .arr 0 2 [[.sl 2 i.1 0 i.1, .ro 5 (cos.map coV)]], .arr i.1 1 ((funs.take i.1).map funR)]⟩ : { i : Nat // i ≤ funs.length } → St)) (fun i => funs.length - i.1) (⟨0, by simp⟩) ?_ ?_
    · skip
      refine Sub.trans (Sub.nilCell 1 0 0 1 (by decide) rfl rfl rfl) ?_
      simp [setOb]
      refine Sub.cutE 3 [false, true, false, true, false, true, true, false, false, false, false, false, false, false, false, false, false, false, false, false, false, false, false, false, false, false, false, false, false, false, false, false, false, false, false, false, false, false, false, false, false, false, false, false, false, false, false, false, false, false, false, false, false, false, false, false, false, false, false, false, false, false, false, false, false, false, false, false, false, false, false, false, false, false, false, false, false, false, false, false, false, false, false, false, false, false, false, false, false, false, false, false, false, false, false, false, false, false, false, false, false, false, false, false, false, false, false, false, false, false, false, false, false, false, false, false, false, false, false, false, false, false, false, false, false, false, false, false, false, false, false, false, false, false, false, false, false, false, false, false, false, false, false, false, false, false, false, false, false, false, false, false] (by simp) ?_ ?_ <;> simp [List.range_succ, toIdx_range, passed, keepT, *]
    · skip
      rintro ⟨i, hi⟩
      simp only
      refine EV.seq ?_
      refine EV.seq ?_
      refine EV.regionG tabOK ?_ -- region 9
      simp -implicitDefEqProofs
      refine EV.condT ?_
      simp -implicitDefEqProofs
      refine condT_intro (fun h1 => ?_) (fun h1 => ?_)
      · try simp at h1
        refine EV.skip ?_
        simp only [thenK_normal, blockK_normal, scopeK_normal]
        refine EV.seq ?_
        refine EV.block ?_
        refine EV.seq ?_
        have hiF : i < funs.length := by first | assumption | omega
        have hof := over_f hov (List.getElem_mem hiF)
        have hos := over_s hov
        refine EV.regionG tabOK ?_ -- region 11
        simp -implicitDefEqProofs
        refine EV.seq ?_
        refine EV.seq ?_
        refine EV.regionG tabOK ?_ -- region 12
        simp -implicitDefEqProofs
        refine EV.block ?_
        refine EV.loopB ((fun j => ⟨[.junk, .ptr 0 0 0 0, .junk, .b true, .junk, .ptr 1 0 0 0, n i, .sl 3 j.1 0 j.1, n j.1, .junk, .junk, .junk, .junk, .junk, .junk, .junk, .junk, .junk, .junk, .junk, .junk, .junk, .junk, .junk, .junk, .junk, .junk, .junk, .junk, .junk, .junk, .junk, .junk, .junk, .junk, .junk, .junk, .junk, .junk, .junk, .junk, .junk, .junk, .junk, .junk, .junk, .junk, .junk, .junk, .junk, .junk, .junk, .junk, .junk, .junk, .junk, .junk, .junk, .junk, .junk, .junk, .junk, .junk, .junk, .junk, .junk, .junk, .junk, .junk, .junk, .junk, .junk, .junk, .junk, .junk, .junk, .junk, .junk, .junk, .junk, .junk, .junk, .junk, .junk, .junk, .junk, .junk, .junk, .junk, .junk, .junk, .junk, .junk, .junk, .junk, .junk, .junk, .junk, .junk, .junk, .junk, .junk, .junk, .junk, .junk, .junk, .junk, .junk, .junk, .junk, .junk, .junk, .junk, .junk, .junk, .junk, .junk, .junk, .junk, .junk, .junk, .junk, .junk, .junk, .junk, .junk, .junk, .junk, .junk, .junk, .junk, .junk, .junk, .junk, .junk, .junk, .junk, .junk, .junk, .junk, .junk, .junk, .junk, .junk, .junk, .junk, .junk, .junk, .junk, .junk, .junk, .junk], [.arr 0 2 [[.ro 1 (funs.map funC), .ro 5 (cos.map coV)]], .arr 0 2 [[.sl 2 i 0 i, .ro 5 (cos.map coV)]], .arr i 1 ((funs.take i).map funR), .arr j.1 5 ((funs[i].take j.1).map fun x => insC (renI x))]⟩ : { j : Nat // j ≤ funs[i].length } → St)) (fun j => funs[i].length - j.1) (⟨0, by simp⟩) ?_ ?_
        · skip
          refine Sub.trans (Sub.newNilE 0 7 5 (by decide) (by simp)) ?_
          simp
          refine Sub.cutE 4 [false, true, false, true, false, true, true, true, true, false, false, false, false, false, false, false, false, false, false, false, false, false, false, false, false, false, false, false, false, false, false, false, false, false, false, false, false, false, false, false, false, false, false, false, false, false, false, false, false, false, false, false, false, false, false, false, false, false, false, false, false, false, false, false, false, false, false, false, false, false, false, false, false, false, false, false, false, false, false, false, false, false, false, false, false, false, false, false, false, false, false, false, false, false, false, false, false, false, false, false, false, false, false, false, false, false, false, false, false, false, false, false, false, false, false, false, false, false, false, false, false, false, false, false, false, false, false, false, false, false, false, false, false, false, false, false, false, false, false, false, false, false, false, false, false, false, false, false, false, false, false, false] (by simp) ?_ ?_ <;> simp [List.range_succ, toIdx_range, passed, keepT, *]
        · skip
          rintro ⟨j, hj⟩
          simp only
          refine EV.seq ?_
          refine EV.seq ?_
          have hjI : (j : Int) ≤ (funs[i].length : Int) := by omega
          refine EV.regionG tabOK ?_ -- region 13
          simp -implicitDefEqProofs [hiF, funC]
          refine EV.condT ?_
          simp -implicitDefEqProofs
          refine condT_intro (fun h2 => ?_) (fun h2 => ?_)
          · try simp at h2
            refine EV.skip ?_
            simp only [thenK_normal, blockK_normal, scopeK_normal]
            refine EV.seq ?_
            refine EV.block ?_
            refine EV.seq ?_
            have hjF : j < funs[i].length := by first | assumption | omega
            have hjI2 : (j : Int) < (funs[i].length : Int) := by omega
            refine EV.regionG tabOK ?_ -- region 15
            simp -implicitDefEqProofs [hiF, hjF, hjI2, funC, insC]
            refine EV.seq ?_
            rcases six8 funs[i][j].op funs[i][j].a funs[i][j].b with ⟨s1, s2, s3⟩ | ⟨s1, s2, s3⟩ | ⟨s1, s2, s3⟩ | ⟨s1, s2, s3⟩ | ⟨s1, s2, s3, hba⟩ | ⟨s1, s2, s3, hba⟩ | ⟨s1, s2, s3, hba⟩ | ⟨s1, s2, s3, hba⟩
            · skip
              refine EV.regionG tabOK ?_ -- region 16
              simp -implicitDefEqProofs
              refine callG_fun (walk14 funs[i][j].op funs[i][j].a funs[i][j].b funs[i][j].c funs[i][j].l) ?_ ?_
              · simp [insV]
              try simp -implicitDefEqProofs [s1, s2, s3, rdl, rd]
              refine EV.seq ?_
              refine EV.regionG tabOK ?_ -- region 17
              simp -implicitDefEqProofs [s1, s2, s3, rdl, rd]
              refine callG_fun (walk11 funs[i][j].op funs[i][j].a funs[i][j].b funs[i][j].c funs[i][j].l) ?_ ?_
              · simp [insV]
              try simp -implicitDefEqProofs [s1, s2, s3, rdl, rd]
              refine EV.seq ?_
              refine EV.regionG tabOK ?_ -- region 18
              simp -implicitDefEqProofs
              refine EV.seq ?_
              refine EV.seq ?_
              refine EV.drawG tabOK mixedOK ?_ -- region 19
              simp (maxSteps := 4000000) -implicitDefEqProofs +contextual [s1, s2, s3, rdl, rd]
              refine And.intro ?_ ?_
              · first | decide +kernel | (simp -implicitDefEqProofs; decide +kernel) | (split <;> decide +kernel)
              try simp -implicitDefEqProofs
              refine EV.condT ?_
              simp -implicitDefEqProofs
              refine EV.skip ?_
              simp only [thenK_normal, blockK_normal, scopeK_normal]
              refine EV.seq ?_
              refine EV.seq ?_
              refine EV.regionG tabOK ?_ -- region 21
              simp -implicitDefEqProofs +contextual [s1, s2, s3, rdl, rd]
              refine EV.condT ?_
              simp -implicitDefEqProofs
              refine EV.skip ?_
              simp only [thenK_normal, blockK_normal, scopeK_normal]
              refine EV.seq ?_
              refine EV.seq ?_
              refine EV.regionG tabOK ?_ -- region 23
              simp -implicitDefEqProofs +contextual [s1, s2, s3, rdl, rd]
              refine EV.condT ?_
              simp -implicitDefEqProofs
              refine EV.skip ?_
              simp only [thenK_normal, blockK_normal, scopeK_normal]
              refine EV.seq ?_
              refine EV.seq ?_
              refine EV.regionG tabOK ?_ -- region 25
              simp -implicitDefEqProofs +contextual [s1, s2, s3, rdl, rd]
              refine EV.condT ?_
              simp -implicitDefEqProofs
              refine EV.skip ?_
              simp only [thenK_normal, blockK_normal, scopeK_normal]
              have hroom : roomFor (j + 1) 56 := room_of (by omega) (by decide)
              have hmin : min j funs[i].length = j := by omega
              refine EV.regionG tabOK ?_ -- region 27
              simp -implicitDefEqProofs [hroom, hmin]
              refine EV.regionG tabOK ?_ -- region 14
              simp -implicitDefEqProofs
              have hw : IntKind.i64.wrap ((j : Int) + 1) = (j : Int) + 1 := wrap_in _ (by omega) (by omega)
              have hTM : List.take (j + 1) (List.map (fun x => [n (renI x).op, n (renI x).a, n (renI x).b, n (renI x).c, V.ro 1 (List.map (fun z => [n z]) (renI x).l)]) funs[i]) = List.take j (List.map (fun x => [n (renI x).op, n (renI x).a, n (renI x).b, n (renI x).c, V.ro 1 (List.map (fun z => [n z]) (renI x).l)]) funs[i]) ++ [[n funs[i][j].op, n (funs[i][j].a), n (funs[i][j].b), n (funs[i][j].c), V.ro 1 (List.map (fun z => [n z]) funs[i][j].l)]] := by
                rw [takeMap_next _ hjF]; simp [renI, s1, s2, s3]
              refine ⟨⟨j + 1, by omega⟩, by simp; omega, ?_⟩
              refine Sub.cutE 4 [false, true, false, true, false, true, true, true, true, false, false, false, false, false, false, false, false, false, false, false, false, false, false, false, false, false, false, false, false, false, false, false, false, false, false, false, false, false, false, false, false, false, false, false, false, false, false, false, false, false, false, false, false, false, false, false, false, false, false, false, false, false, false, false, false, false, false, false, false, false, false, false, false, false, false, false, false, false, false, false, false, false, false, false, false, false, false, false, false, false, false, false, false, false, false, false, false, false, false, false, false, false, false, false, false, false, false, false, false, false, false, false, false, false, false, false, false, false, false, false, false, false, false, false, false, false, false, false, false, false, false, false, false, false, false, false, false, false, false, false, false, false, false, false, false, false, false, false, false, false, false, false] (by simp) ?_ ?_ <;> simp [List.range_succ, toIdx_range, passed, keepT, hw, hTM, List.take_take, insC]
            · skip
              refine EV.regionG tabOK ?_ -- region 16
              simp -implicitDefEqProofs
              refine callG_fun (walk14 funs[i][j].op funs[i][j].a funs[i][j].b funs[i][j].c funs[i][j].l) ?_ ?_
              · simp [insV]
              try simp -implicitDefEqProofs [s1, s2, s3, rdl, rd]
              refine EV.seq ?_
              refine EV.regionG tabOK ?_ -- region 17
              simp -implicitDefEqProofs [s1, s2, s3, rdl, rd]
              refine callG_fun (walk11 funs[i][j].op funs[i][j].a funs[i][j].b funs[i][j].c funs[i][j].l) ?_ ?_
              · simp [insV]
              try simp -implicitDefEqProofs [s1, s2, s3, rdl, rd]
              refine EV.seq ?_
              refine EV.regionG tabOK ?_ -- region 18
              simp -implicitDefEqProofs
              refine EV.seq ?_
              refine EV.seq ?_
              refine EV.drawG tabOK mixedOK ?_ -- region 19
              simp (maxSteps := 4000000) -implicitDefEqProofs +contextual [s1, s2, s3, rdl, rd]
              refine And.intro ?_ ?_
              · first | decide +kernel | (simp -implicitDefEqProofs; decide +kernel) | (split <;> decide +kernel)
              try simp -implicitDefEqProofs
              refine EV.condT ?_
              simp -implicitDefEqProofs
              refine EV.regionG tabOK ?_ -- region 20
              simp -implicitDefEqProofs
              refine callG_fun (walk25 funs[i][j].a) ?_ ?_
              · simp [insV]
              try simp -implicitDefEqProofs
              refine EV.seq ?_
              refine EV.seq ?_
              refine EV.regionG tabOK ?_ -- region 21
              simp -implicitDefEqProofs +contextual [s1, s2, s3, rdl, rd]
              refine EV.condT ?_
              simp -implicitDefEqProofs
              refine EV.skip ?_
              simp only [thenK_normal, blockK_normal, scopeK_normal]
              refine EV.seq ?_
              refine EV.seq ?_
              refine EV.regionG tabOK ?_ -- region 23
              simp -implicitDefEqProofs +contextual [s1, s2, s3, rdl, rd]
              refine EV.condT ?_
              simp -implicitDefEqProofs
              refine EV.skip ?_
              simp only [thenK_normal, blockK_normal, scopeK_normal]
              refine EV.seq ?_
              refine EV.seq ?_
              refine EV.regionG tabOK ?_ -- region 25
              simp -implicitDefEqProofs +contextual [s1, s2, s3, rdl, rd]
              refine EV.condT ?_
              simp -implicitDefEqProofs
              refine EV.skip ?_
              simp only [thenK_normal, blockK_normal, scopeK_normal]
              have hroom : roomFor (j + 1) 56 := room_of (by omega) (by decide)
              have hmin : min j funs[i].length = j := by omega
              refine EV.regionG tabOK ?_ -- region 27
              simp -implicitDefEqProofs [hroom, hmin]
              refine EV.regionG tabOK ?_ -- region 14
              simp -implicitDefEqProofs
              have hw : IntKind.i64.wrap ((j : Int) + 1) = (j : Int) + 1 := wrap_in _ (by omega) (by omega)
              have hTM : List.take (j + 1) (List.map (fun x => [n (renI x).op, n (renI x).a, n (renI x).b, n (renI x).c, V.ro 1 (List.map (fun z => [n z]) (renI x).l)]) funs[i]) = List.take j (List.map (fun x => [n (renI x).op, n (renI x).a, n (renI x).b, n (renI x).c, V.ro 1 (List.map (fun z => [n z]) (renI x).l)]) funs[i]) ++ [[n funs[i][j].op, n (turnedI funs[i][j].a), n (funs[i][j].b), n (funs[i][j].c), V.ro 1 (List.map (fun z => [n z]) funs[i][j].l)]] := by
                rw [takeMap_next _ hjF]; simp [renI, s1, s2, s3]
              refine ⟨⟨j + 1, by omega⟩, by simp; omega, ?_⟩
              refine Sub.cutE 4 [false, true, false, true, false, true, true, true, true, false, false, false, false, false, false, false, false, false, false, false, false, false, false, false, false, false, false, false, false, false, false, false, false, false, false, false, false, false, false, false, false, false, false, false, false, false, false, false, false, false, false, false, false, false, false, false, false, false, false, false, false, false, false, false, false, false, false, false, false, false, false, false, false, false, false, false, false, false, false, false, false, false, false, false, false, false, false, false, false, false, false, false, false, false, false, false, false, false, false, false, false, false, false, false, false, false, false, false, false, false, false, false, false, false, false, false, false, false, false, false, false, false, false, false, false, false, false, false, false, false, false, false, false, false, false, false, false, false, false, false, false, false, false, false, false, false, false, false, false, false, false, false] (by simp) ?_ ?_ <;> simp [List.range_succ, toIdx_range, passed, keepT, hw, hTM, List.take_take, insC]
            · skip
              refine EV.regionG tabOK ?_ -- region 16
              simp -implicitDefEqProofs
              refine callG_fun (walk14 funs[i][j].op funs[i][j].a funs[i][j].b funs[i][j].c funs[i][j].l) ?_ ?_
              · simp [insV]
              try simp -implicitDefEqProofs [s1, s2, s3, rdl, rd]
              refine EV.seq ?_
              refine EV.regionG tabOK ?_ -- region 17
              simp -implicitDefEqProofs [s1, s2, s3, rdl, rd]
              refine callG_fun (walk11 funs[i][j].op funs[i][j].a funs[i][j].b funs[i][j].c funs[i][j].l) ?_ ?_
              · simp [insV]
              try simp -implicitDefEqProofs [s1, s2, s3, rdl, rd]
              refine EV.seq ?_
              refine EV.regionG tabOK ?_ -- region 18
              simp -implicitDefEqProofs
              refine EV.seq ?_
              refine EV.seq ?_
              refine EV.drawG tabOK mixedOK ?_ -- region 19
              simp (maxSteps := 4000000) -implicitDefEqProofs +contextual [s1, s2, s3, rdl, rd]
              refine And.intro ?_ ?_
              · first | decide +kernel | (simp -implicitDefEqProofs; decide +kernel) | (split <;> decide +kernel)
              try simp -implicitDefEqProofs
              refine EV.condT ?_
              simp -implicitDefEqProofs
              refine EV.regionG tabOK ?_ -- region 20
              simp -implicitDefEqProofs
              refine callG_fun (walk25 funs[i][j].a) ?_ ?_
              · simp [insV]
              try simp -implicitDefEqProofs
              refine EV.seq ?_
              refine EV.seq ?_
              refine EV.regionG tabOK ?_ -- region 21
              simp -implicitDefEqProofs +contextual [s1, s2, s3, rdl, rd]
              refine EV.condT ?_
              simp -implicitDefEqProofs
              refine EV.regionG tabOK ?_ -- region 22
              simp -implicitDefEqProofs
              refine callG_fun (walk25 funs[i][j].b) ?_ ?_
              · simp [insV]
              try simp -implicitDefEqProofs
              refine EV.seq ?_
              refine EV.seq ?_
              refine EV.regionG tabOK ?_ -- region 23
              simp -implicitDefEqProofs +contextual [s1, s2, s3, rdl, rd]
              refine EV.condT ?_
              simp -implicitDefEqProofs
              refine EV.skip ?_
              simp only [thenK_normal, blockK_normal, scopeK_normal]
              refine EV.seq ?_
              refine EV.seq ?_
              refine EV.regionG tabOK ?_ -- region 25
              simp -implicitDefEqProofs +contextual [s1, s2, s3, rdl, rd]
              refine EV.condT ?_
              simp -implicitDefEqProofs
              refine EV.skip ?_
              simp only [thenK_normal, blockK_normal, scopeK_normal]
              have hroom : roomFor (j + 1) 56 := room_of (by omega) (by decide)
              have hmin : min j funs[i].length = j := by omega
              refine EV.regionG tabOK ?_ -- region 27
              simp -implicitDefEqProofs [hroom, hmin]
              refine EV.regionG tabOK ?_ -- region 14
              simp -implicitDefEqProofs
              have hw : IntKind.i64.wrap ((j : Int) + 1) = (j : Int) + 1 := wrap_in _ (by omega) (by omega)
              have hTM : List.take (j + 1) (List.map (fun x => [n (renI x).op, n (renI x).a, n (renI x).b, n (renI x).c, V.ro 1 (List.map (fun z => [n z]) (renI x).l)]) funs[i]) = List.take j (List.map (fun x => [n (renI x).op, n (renI x).a, n (renI x).b, n (renI x).c, V.ro 1 (List.map (fun z => [n z]) (renI x).l)]) funs[i]) ++ [[n funs[i][j].op, n (turnedI funs[i][j].a), n (turnedI funs[i][j].b), n (funs[i][j].c), V.ro 1 (List.map (fun z => [n z]) funs[i][j].l)]] := by
                rw [takeMap_next _ hjF]; simp [renI, s1, s2, s3]
              refine ⟨⟨j + 1, by omega⟩, by simp; omega, ?_⟩
              refine Sub.cutE 4 [false, true, false, true, false, true, true, true, true, false, false, false, false, false, false, false, false, false, false, false, false, false, false, false, false, false, false, false, false, false, false, false, false, false, false, false, false, false, false, false, false, false, false, false, false, false, false, false, false, false, false, false, false, false, false, false, false, false, false, false, false, false, false, false, false, false, false, false, false, false, false, false, false, false, false, false, false, false, false, false, false, false, false, false, false, false, false, false, false, false, false, false, false, false, false, false, false, false, false, false, false, false, false, false, false, false, false, false, false, false, false, false, false, false, false, false, false, false, false, false, false, false, false, false, false, false, false, false, false, false, false, false, false, false, false, false, false, false, false, false, false, false, false, false, false, false, false, false, false, false, false, false] (by simp) ?_ ?_ <;> simp [List.range_succ, toIdx_range, passed, keepT, hw, hTM, List.take_take, insC]
            · skip
              refine EV.regionG tabOK ?_ -- region 16
              simp -implicitDefEqProofs
              refine callG_fun (walk14 funs[i][j].op funs[i][j].a funs[i][j].b funs[i][j].c funs[i][j].l) ?_ ?_
              · simp [insV]
              try simp -implicitDefEqProofs [s1, s2, s3, rdl, rd]
              refine EV.seq ?_
              refine EV.regionG tabOK ?_ -- region 17
              simp -implicitDefEqProofs [s1, s2, s3, rdl, rd]
              refine callG_fun (walk11 funs[i][j].op funs[i][j].a funs[i][j].b funs[i][j].c funs[i][j].l) ?_ ?_
              · simp [insV]
              try simp -implicitDefEqProofs [s1, s2, s3, rdl, rd]
              refine EV.seq ?_
              refine EV.regionG tabOK ?_ -- region 18
              simp -implicitDefEqProofs
              refine EV.seq ?_
              refine EV.seq ?_
              refine EV.drawG tabOK mixedOK ?_ -- region 19
              simp (maxSteps := 4000000) -implicitDefEqProofs +contextual [s1, s2, s3, rdl, rd]
              refine And.intro ?_ ?_
              · first | decide +kernel | (simp -implicitDefEqProofs; decide +kernel) | (split <;> decide +kernel)
              try simp -implicitDefEqProofs
              refine EV.condT ?_
              simp -implicitDefEqProofs
              refine EV.regionG tabOK ?_ -- region 20
              simp -implicitDefEqProofs
              refine callG_fun (walk25 funs[i][j].a) ?_ ?_
              · simp [insV]
              try simp -implicitDefEqProofs
              refine EV.seq ?_
              refine EV.seq ?_
              refine EV.regionG tabOK ?_ -- region 21
              simp -implicitDefEqProofs +contextual [s1, s2, s3, rdl, rd]
              refine EV.condT ?_
              simp -implicitDefEqProofs
              refine EV.skip ?_
              simp only [thenK_normal, blockK_normal, scopeK_normal]
              refine EV.seq ?_
              refine EV.seq ?_
              refine EV.regionG tabOK ?_ -- region 23
              simp -implicitDefEqProofs +contextual [s1, s2, s3, rdl, rd]
              refine EV.condT ?_
              simp -implicitDefEqProofs
              refine EV.skip ?_
              simp only [thenK_normal, blockK_normal, scopeK_normal]
              refine EV.seq ?_
              refine EV.seq ?_
              refine EV.regionG tabOK ?_ -- region 25
              simp -implicitDefEqProofs +contextual [s1, s2, s3, rdl, rd]
              refine EV.condT ?_
              simp -implicitDefEqProofs
              refine EV.skip ?_
              simp only [thenK_normal, blockK_normal, scopeK_normal]
              have hroom : roomFor (j + 1) 56 := room_of (by omega) (by decide)
              have hmin : min j funs[i].length = j := by omega
              refine EV.regionG tabOK ?_ -- region 27
              simp -implicitDefEqProofs [hroom, hmin]
              refine EV.regionG tabOK ?_ -- region 14
              simp -implicitDefEqProofs
              have hw : IntKind.i64.wrap ((j : Int) + 1) = (j : Int) + 1 := wrap_in _ (by omega) (by omega)
              have hTM : List.take (j + 1) (List.map (fun x => [n (renI x).op, n (renI x).a, n (renI x).b, n (renI x).c, V.ro 1 (List.map (fun z => [n z]) (renI x).l)]) funs[i]) = List.take j (List.map (fun x => [n (renI x).op, n (renI x).a, n (renI x).b, n (renI x).c, V.ro 1 (List.map (fun z => [n z]) (renI x).l)]) funs[i]) ++ [[n funs[i][j].op, n (turnedI funs[i][j].a), n (funs[i][j].b), n (funs[i][j].c), V.ro 1 (List.map (fun z => [n z]) funs[i][j].l)]] := by
                rw [takeMap_next _ hjF]; simp [renI, s1, s2, s3]
              refine ⟨⟨j + 1, by omega⟩, by simp; omega, ?_⟩
              refine Sub.cutE 4 [false, true, false, true, false, true, true, true, true, false, false, false, false, false, false, false, false, false, false, false, false, false, false, false, false, false, false, false, false, false, false, false, false, false, false, false, false, false, false, false, false, false, false, false, false, false, false, false, false, false, false, false, false, false, false, false, false, false, false, false, false, false, false, false, false, false, false, false, false, false, false, false, false, false, false, false, false, false, false, false, false, false, false, false, false, false, false, false, false, false, false, false, false, false, false, false, false, false, false, false, false, false, false, false, false, false, false, false, false, false, false, false, false, false, false, false, false, false, false, false, false, false, false, false, false, false, false, false, false, false, false, false, false, false, false, false, false, false, false, false, false, false, false, false, false, false, false, false, false, false, false, false] (by simp) ?_ ?_ <;> simp [List.range_succ, toIdx_range, passed, keepT, hw, hTM, List.take_take, insC]
            · skip
              refine EV.regionG tabOK ?_ -- region 16
              simp -implicitDefEqProofs
              refine callG_fun (walk14 funs[i][j].op funs[i][j].a funs[i][j].b funs[i][j].c funs[i][j].l) ?_ ?_
              · simp [insV]
              try simp -implicitDefEqProofs [s1, s2, s3, rdl, rd]
              refine EV.seq ?_
              refine EV.regionG tabOK ?_ -- region 17
              simp -implicitDefEqProofs [s1, s2, s3, rdl, rd]
              refine callG_fun (walk11 funs[i][j].op funs[i][j].a funs[i][j].b funs[i][j].c funs[i][j].l) ?_ ?_
              · simp [insV]
              try simp -implicitDefEqProofs [s1, s2, s3, rdl, rd]
              refine EV.seq ?_
              refine EV.regionG tabOK ?_ -- region 18
              simp -implicitDefEqProofs
              refine EV.seq ?_
              refine EV.seq ?_
              refine EV.drawG tabOK mixedOK ?_ -- region 19
              simp (maxSteps := 4000000) -implicitDefEqProofs +contextual [s1, s2, s3, rdl, rd, hba]
              refine And.intro ?_ ?_
              · first | decide +kernel | (simp -implicitDefEqProofs; decide +kernel) | (split <;> decide +kernel)
              try simp -implicitDefEqProofs
              refine EV.condT ?_
              simp -implicitDefEqProofs
              refine EV.regionG tabOK ?_ -- region 20
              simp -implicitDefEqProofs
              refine callG_fun (walk25 funs[i][j].a) ?_ ?_
              · simp [insV]
              try simp -implicitDefEqProofs
              refine EV.seq ?_
              refine EV.seq ?_
              refine EV.regionG tabOK ?_ -- region 21
              simp -implicitDefEqProofs +contextual [s1, s2, s3, rdl, rd]
              refine EV.condT ?_
              simp -implicitDefEqProofs
              refine EV.skip ?_
              simp only [thenK_normal, blockK_normal, scopeK_normal]
              refine EV.seq ?_
              refine EV.seq ?_
              refine EV.regionG tabOK ?_ -- region 23
              simp -implicitDefEqProofs +contextual [s1, s2, s3, rdl, rd]
              refine EV.condT ?_
              simp -implicitDefEqProofs
              refine EV.regionG tabOK ?_ -- region 24
              simp -implicitDefEqProofs
              refine callG_fun (walk25 funs[i][j].b) ?_ ?_
              · simp [insV]
              try simp -implicitDefEqProofs
              refine EV.seq ?_
              refine EV.seq ?_
              refine EV.regionG tabOK ?_ -- region 25
              simp -implicitDefEqProofs +contextual [s1, s2, s3, rdl, rd]
              refine EV.condT ?_
              simp -implicitDefEqProofs
              refine EV.skip ?_
              simp only [thenK_normal, blockK_normal, scopeK_normal]
              have hroom : roomFor (j + 1) 56 := room_of (by omega) (by decide)
              have hmin : min j funs[i].length = j := by omega
              refine EV.regionG tabOK ?_ -- region 27
              simp -implicitDefEqProofs [hroom, hmin]
              refine EV.regionG tabOK ?_ -- region 14
              simp -implicitDefEqProofs
              have hw : IntKind.i64.wrap ((j : Int) + 1) = (j : Int) + 1 := wrap_in _ (by omega) (by omega)
              have hTM : List.take (j + 1) (List.map (fun x => [n (renI x).op, n (renI x).a, n (renI x).b, n (renI x).c, V.ro 1 (List.map (fun z => [n z]) (renI x).l)]) funs[i]) = List.take j (List.map (fun x => [n (renI x).op, n (renI x).a, n (renI x).b, n (renI x).c, V.ro 1 (List.map (fun z => [n z]) (renI x).l)]) funs[i]) ++ [[n funs[i][j].op, n (turnedI funs[i][j].a), n (turnedI funs[i][j].b), n (funs[i][j].c), V.ro 1 (List.map (fun z => [n z]) funs[i][j].l)]] := by
                rw [takeMap_next _ hjF]; simp [renI, s1, s2, s3]
              refine ⟨⟨j + 1, by omega⟩, by simp; omega, ?_⟩
              refine Sub.cutE 4 [false, true, false, true, false, true, true, true, true, false, false, false, false, false, false, false, false, false, false, false, false, false, false, false, false, false, false, false, false, false, false, false, false, false, false, false, false, false, false, false, false, false, false, false, false, false, false, false, false, false, false, false, false, false, false, false, false, false, false, false, false, false, false, false, false, false, false, false, false, false, false, false, false, false, false, false, false, false, false, false, false, false, false, false, false, false, false, false, false, false, false, false, false, false, false, false, false, false, false, false, false, false, false, false, false, false, false, false, false, false, false, false, false, false, false, false, false, false, false, false, false, false, false, false, false, false, false, false, false, false, false, false, false, false, false, false, false, false, false, false, false, false, false, false, false, false, false, false, false, false, false, false] (by simp) ?_ ?_ <;> simp [List.range_succ, toIdx_range, passed, keepT, hw, hTM, List.take_take, insC]
            · skip
              refine EV.regionG tabOK ?_ -- region 16
              simp -implicitDefEqProofs
              refine callG_fun (walk14 funs[i][j].op funs[i][j].a funs[i][j].b funs[i][j].c funs[i][j].l) ?_ ?_
              · simp [insV]
              try simp -implicitDefEqProofs [s1, s2, s3, rdl, rd]
              refine EV.seq ?_
              refine EV.regionG tabOK ?_ -- region 17
              simp -implicitDefEqProofs [s1, s2, s3, rdl, rd]
              refine callG_fun (walk11 funs[i][j].op funs[i][j].a funs[i][j].b funs[i][j].c funs[i][j].l) ?_ ?_
              · simp [insV]
              try simp -implicitDefEqProofs [s1, s2, s3, rdl, rd]
              refine EV.seq ?_
              refine EV.regionG tabOK ?_ -- region 18
              simp -implicitDefEqProofs
              refine EV.seq ?_
              refine EV.seq ?_
              refine EV.drawG tabOK mixedOK ?_ -- region 19
              simp (maxSteps := 4000000) -implicitDefEqProofs +contextual [s1, s2, s3, rdl, rd, hba]
              refine And.intro ?_ ?_
              · first | decide +kernel | (simp -implicitDefEqProofs; decide +kernel) | (split <;> decide +kernel)
              try simp -implicitDefEqProofs
              refine EV.condT ?_
              simp -implicitDefEqProofs
              refine EV.regionG tabOK ?_ -- region 20
              simp -implicitDefEqProofs
              refine callG_fun (walk25 funs[i][j].a) ?_ ?_
              · simp [insV]
              try simp -implicitDefEqProofs
              refine EV.seq ?_
              refine EV.seq ?_
              refine EV.regionG tabOK ?_ -- region 21
              simp -implicitDefEqProofs +contextual [s1, s2, s3, rdl, rd]
              refine EV.condT ?_
              simp -implicitDefEqProofs
              refine EV.skip ?_
              simp only [thenK_normal, blockK_normal, scopeK_normal]
              refine EV.seq ?_
              refine EV.seq ?_
              refine EV.regionG tabOK ?_ -- region 23
              simp -implicitDefEqProofs +contextual [s1, s2, s3, rdl, rd]
              refine EV.condT ?_
              simp -implicitDefEqProofs
              refine EV.regionG tabOK ?_ -- region 24
              simp -implicitDefEqProofs
              refine callG_fun (walk25 funs[i][j].b) ?_ ?_
              · simp [insV]
              try simp -implicitDefEqProofs
              refine EV.seq ?_
              refine EV.seq ?_
              refine EV.regionG tabOK ?_ -- region 25
              simp -implicitDefEqProofs +contextual [s1, s2, s3, rdl, rd]
              refine EV.condT ?_
              simp -implicitDefEqProofs
              refine EV.skip ?_
              simp only [thenK_normal, blockK_normal, scopeK_normal]
              have hroom : roomFor (j + 1) 56 := room_of (by omega) (by decide)
              have hmin : min j funs[i].length = j := by omega
              refine EV.regionG tabOK ?_ -- region 27
              simp -implicitDefEqProofs [hroom, hmin]
              refine EV.regionG tabOK ?_ -- region 14
              simp -implicitDefEqProofs
              have hw : IntKind.i64.wrap ((j : Int) + 1) = (j : Int) + 1 := wrap_in _ (by omega) (by omega)
              have hTM : List.take (j + 1) (List.map (fun x => [n (renI x).op, n (renI x).a, n (renI x).b, n (renI x).c, V.ro 1 (List.map (fun z => [n z]) (renI x).l)]) funs[i]) = List.take j (List.map (fun x => [n (renI x).op, n (renI x).a, n (renI x).b, n (renI x).c, V.ro 1 (List.map (fun z => [n z]) (renI x).l)]) funs[i]) ++ [[n funs[i][j].op, n (turnedI funs[i][j].a), n (turnedI funs[i][j].b), n (funs[i][j].c), V.ro 1 (List.map (fun z => [n z]) funs[i][j].l)]] := by
                rw [takeMap_next _ hjF]; simp [renI, s1, s2, s3]
              refine ⟨⟨j + 1, by omega⟩, by simp; omega, ?_⟩
              refine Sub.cutE 4 [false, true, false, true, false, true, true, true, true, false, false, false, false, false, false, false, false, false, false, false, false, false, false, false, false, false, false, false, false, false, false, false, false, false, false, false, false, false, false, false, false, false, false, false, false, false, false, false, false, false, false, false, false, false, false, false, false, false, false, false, false, false, false, false, false, false, false, false, false, false, false, false, false, false, false, false, false, false, false, false, false, false, false, false, false, false, false, false, false, false, false, false, false, false, false, false, false, false, false, false, false, false, false, false, false, false, false, false, false, false, false, false, false, false, false, false, false, false, false, false, false, false, false, false, false, false, false, false, false, false, false, false, false, false, false, false, false, false, false, false, false, false, false, false, false, false, false, false, false, false, false, false] (by simp) ?_ ?_ <;> simp [List.range_succ, toIdx_range, passed, keepT, hw, hTM, List.take_take, insC]
            · skip
              refine EV.regionG tabOK ?_ -- region 16
              simp -implicitDefEqProofs
              refine callG_fun (walk14 funs[i][j].op funs[i][j].a funs[i][j].b funs[i][j].c funs[i][j].l) ?_ ?_
              · simp [insV]
              try simp -implicitDefEqProofs [s1, s2, s3, rdl, rd]
              refine EV.seq ?_
              refine EV.regionG tabOK ?_ -- region 17
              simp -implicitDefEqProofs [s1, s2, s3, rdl, rd]
              refine callG_fun (walk11 funs[i][j].op funs[i][j].a funs[i][j].b funs[i][j].c funs[i][j].l) ?_ ?_
              · simp [insV]
              try simp -implicitDefEqProofs [s1, s2, s3, rdl, rd]
              refine EV.seq ?_
              refine EV.regionG tabOK ?_ -- region 18
              simp -implicitDefEqProofs
              refine EV.seq ?_
              refine EV.seq ?_
              refine EV.drawG tabOK mixedOK ?_ -- region 19
              simp (maxSteps := 4000000) -implicitDefEqProofs +contextual [s1, s2, s3, rdl, rd, hba]
              refine And.intro ?_ ?_
              · first | decide +kernel | (simp -implicitDefEqProofs; decide +kernel) | (split <;> decide +kernel)
              try simp -implicitDefEqProofs
              refine EV.condT ?_
              simp -implicitDefEqProofs
              refine EV.regionG tabOK ?_ -- region 20
              simp -implicitDefEqProofs
              refine callG_fun (walk25 funs[i][j].a) ?_ ?_
              · simp [insV]
              try simp -implicitDefEqProofs
              refine EV.seq ?_
              refine EV.seq ?_
              refine EV.regionG tabOK ?_ -- region 21
              simp -implicitDefEqProofs +contextual [s1, s2, s3, rdl, rd]
              refine EV.condT ?_
              simp -implicitDefEqProofs
              refine EV.skip ?_
              simp only [thenK_normal, blockK_normal, scopeK_normal]
              refine EV.seq ?_
              refine EV.seq ?_
              refine EV.regionG tabOK ?_ -- region 23
              simp -implicitDefEqProofs +contextual [s1, s2, s3, rdl, rd]
              refine EV.condT ?_
              simp -implicitDefEqProofs
              refine EV.regionG tabOK ?_ -- region 24
              simp -implicitDefEqProofs
              refine callG_fun (walk25 funs[i][j].b) ?_ ?_
              · simp [insV]
              try simp -implicitDefEqProofs
              refine EV.seq ?_
              refine EV.seq ?_
              refine EV.regionG tabOK ?_ -- region 25
              simp -implicitDefEqProofs +contextual [s1, s2, s3, rdl, rd]
              refine EV.condT ?_
              simp -implicitDefEqProofs
              refine EV.regionG tabOK ?_ -- region 26
              simp -implicitDefEqProofs
              refine callG_fun (walk25 funs[i][j].c) ?_ ?_
              · simp [insV]
              try simp -implicitDefEqProofs
              have hroom : roomFor (j + 1) 56 := room_of (by omega) (by decide)
              have hmin : min j funs[i].length = j := by omega
              refine EV.regionG tabOK ?_ -- region 27
              simp -implicitDefEqProofs [hroom, hmin]
              refine EV.regionG tabOK ?_ -- region 14
              simp -implicitDefEqProofs
              have hw : IntKind.i64.wrap ((j : Int) + 1) = (j : Int) + 1 := wrap_in _ (by omega) (by omega)
              have hTM : List.take (j + 1) (List.map (fun x => [n (renI x).op, n (renI x).a, n (renI x).b, n (renI x).c, V.ro 1 (List.map (fun z => [n z]) (renI x).l)]) funs[i]) = List.take j (List.map (fun x => [n (renI x).op, n (renI x).a, n (renI x).b, n (renI x).c, V.ro 1 (List.map (fun z => [n z]) (renI x).l)]) funs[i]) ++ [[n funs[i][j].op, n (turnedI funs[i][j].a), n (turnedI funs[i][j].b), n (turnedI funs[i][j].c), V.ro 1 (List.map (fun z => [n z]) funs[i][j].l)]] := by
                rw [takeMap_next _ hjF]; simp [renI, s1, s2, s3]
              refine ⟨⟨j + 1, by omega⟩, by simp; omega, ?_⟩
              refine Sub.cutE 4 [false, true, false, true, false, true, true, true, true, false, false, false, false, false, false, false, false, false, false, false, false, false, false, false, false, false, false, false, false, false, false, false, false, false, false, false, false, false, false, false, false, false, false, false, false, false, false, false, false, false, false, false, false, false, false, false, false, false, false, false, false, false, false, false, false, false, false, false, false, false, false, false, false, false, false, false, false, false, false, false, false, false, false, false, false, false, false, false, false, false, false, false, false, false, false, false, false, false, false, false, false, false, false, false, false, false, false, false, false, false, false, false, false, false, false, false, false, false, false, false, false, false, false, false, false, false, false, false, false, false, false, false, false, false, false, false, false, false, false, false, false, false, false, false, false, false, false, false, false, false, false, false] (by simp) ?_ ?_ <;> simp [List.range_succ, toIdx_range, passed, keepT, hw, hTM, List.take_take, insC]
            · skip
              refine EV.regionG tabOK ?_ -- region 16
              simp -implicitDefEqProofs
              refine callG_fun (walk14 funs[i][j].op funs[i][j].a funs[i][j].b funs[i][j].c funs[i][j].l) ?_ ?_
              · simp [insV]
              try simp -implicitDefEqProofs [s1, s2, s3, rdl, rd]
              refine EV.seq ?_
              refine EV.regionG tabOK ?_ -- region 17
              simp -implicitDefEqProofs [s1, s2, s3, rdl, rd]
              refine callG_fun (walk11 funs[i][j].op funs[i][j].a funs[i][j].b funs[i][j].c funs[i][j].l) ?_ ?_
              · simp [insV]
              try simp -implicitDefEqProofs [s1, s2, s3, rdl, rd]
              refine EV.seq ?_
              refine EV.regionG tabOK ?_ -- region 18
              simp -implicitDefEqProofs
              refine EV.seq ?_
              refine EV.seq ?_
              refine EV.drawG tabOK mixedOK ?_ -- region 19
              simp (maxSteps := 4000000) -implicitDefEqProofs +contextual [s1, s2, s3, rdl, rd, hba]
              refine And.intro ?_ ?_
              · first | decide +kernel | (simp -implicitDefEqProofs; decide +kernel) | (split <;> decide +kernel)
              try simp -implicitDefEqProofs
              refine EV.condT ?_
              simp -implicitDefEqProofs
              refine EV.regionG tabOK ?_ -- region 20
              simp -implicitDefEqProofs
              refine callG_fun (walk25 funs[i][j].a) ?_ ?_
              · simp [insV]
              try simp -implicitDefEqProofs
              refine EV.seq ?_
              refine EV.seq ?_
              refine EV.regionG tabOK ?_ -- region 21
              simp -implicitDefEqProofs +contextual [s1, s2, s3, rdl, rd]
              refine EV.condT ?_
              simp -implicitDefEqProofs
              refine EV.skip ?_
              simp only [thenK_normal, blockK_normal, scopeK_normal]
              refine EV.seq ?_
              refine EV.seq ?_
              refine EV.regionG tabOK ?_ -- region 23
              simp -implicitDefEqProofs +contextual [s1, s2, s3, rdl, rd]
              refine EV.condT ?_
              simp -implicitDefEqProofs
              refine EV.regionG tabOK ?_ -- region 24
              simp -implicitDefEqProofs
              refine callG_fun (walk25 funs[i][j].b) ?_ ?_
              · simp [insV]
              try simp -implicitDefEqProofs
              refine EV.seq ?_
              refine EV.seq ?_
              refine EV.regionG tabOK ?_ -- region 25
              simp -implicitDefEqProofs +contextual [s1, s2, s3, rdl, rd]
              refine EV.condT ?_
              simp -implicitDefEqProofs
              refine EV.regionG tabOK ?_ -- region 26
              simp -implicitDefEqProofs
              refine callG_fun (walk25 funs[i][j].c) ?_ ?_
              · simp [insV]
              try simp -implicitDefEqProofs
              have hroom : roomFor (j + 1) 56 := room_of (by omega) (by decide)
              have hmin : min j funs[i].length = j := by omega
              refine EV.regionG tabOK ?_ -- region 27
              simp -implicitDefEqProofs [hroom, hmin]
              refine EV.regionG tabOK ?_ -- region 14
              simp -implicitDefEqProofs
              have hw : IntKind.i64.wrap ((j : Int) + 1) = (j : Int) + 1 := wrap_in _ (by omega) (by omega)
              have hTM : List.take (j + 1) (List.map (fun x => [n (renI x).op, n (renI x).a, n (renI x).b, n (renI x).c, V.ro 1 (List.map (fun z => [n z]) (renI x).l)]) funs[i]) = List.take j (List.map (fun x => [n (renI x).op, n (renI x).a, n (renI x).b, n (renI x).c, V.ro 1 (List.map (fun z => [n z]) (renI x).l)]) funs[i]) ++ [[n funs[i][j].op, n (turnedI funs[i][j].a), n (turnedI funs[i][j].b), n (turnedI funs[i][j].c), V.ro 1 (List.map (fun z => [n z]) funs[i][j].l)]] := by
                rw [takeMap_next _ hjF]; simp [renI, s1, s2, s3]
              refine ⟨⟨j + 1, by omega⟩, by simp; omega, ?_⟩
              refine Sub.cutE 4 [false, true, false, true, false, true, true, true, true, false, false, false, false, false, false, false, false, false, false, false, false, false, false, false, false, false, false, false, false, false, false, false, false, false, false, false, false, false, false, false, false, false, false, false, false, false, false, false, false, false, false, false, false, false, false, false, false, false, false, false, false, false, false, false, false, false, false, false, false, false, false, false, false, false, false, false, false, false, false, false, false, false, false, false, false, false, false, false, false, false, false, false, false, false, false, false, false, false, false, false, false, false, false, false, false, false, false, false, false, false, false, false, false, false, false, false, false, false, false, false, false, false, false, false, false, false, false, false, false, false, false, false, false, false, false, false, false, false, false, false, false, false, false, false, false, false, false, false, false, false, false, false] (by simp) ?_ ?_ <;> simp [List.range_succ, toIdx_range, passed, keepT, hw, hTM, List.take_take, insC]
          · try simp at h2
            refine EV.exit ?_
            simp -implicitDefEqProofs
            have hroom2 : roomFor (i + 1) 24 := room_of (by omega) (by decide)
            have hmin2 : min i funs.length = i := by omega
            refine EV.regionG tabOK ?_ -- region 28
            simp -implicitDefEqProofs [hroom2, hmin2, List.take_take]
            refine EV.regionG tabOK ?_ -- region 10
            simp -implicitDefEqProofs
            have hw : IntKind.i64.wrap ((i : Int) + 1) = (i : Int) + 1 := wrap_in _ (by omega) (by omega)
            have hTj : funs[i].take j = funs[i] := List.take_of_length_le (by omega)
            have hjl : j = funs[i].length := by omega
            have hTi := List.take_append_getElem hiF
            have hT2 := takeMap_next funR hiF
            refine ⟨⟨i + 1, by omega⟩, by simp; omega, ?_⟩
            refine Sub.adoptR [0, 1, 2] [false, true, false, true, false, true, true, false, false, false, false, false, false, false, false, false, false, false, false, false, false, false, false, false, false, false, false, false, false, false, false, false, false, false, false, false, false, false, false, false, false, false, false, false, false, false, false, false, false, false, false, false, false, false, false, false, false, false, false, false, false, false, false, false, false, false, false, false, false, false, false, false, false, false, false, false, false, false, false, false, false, false, false, false, false, false, false, false, false, false, false, false, false, false, false, false, false, false, false, false, false, false, false, false, false, false, false, false, false, false, false, false, false, false, false, false, false, false, false, false, false, false, false, false, false, false, false, false, false, false, false, false, false, false, false, false, false, false, false, false, false, false, false, false, false, false, false, false, false, false, false, false] 2 2 ((funs.take (i + 1)).map funR) (by decide) (by simp) rfl rfl ?_ ?_ ?_ ?_
            · intro x hx; obtain ⟨f, _, rfl⟩ := List.mem_map.1 hx; rfl
            · rw [← hTi, List.map_append, ← List.map_take]
              refine allR_app (allR_pu (rowsR_pu _)) ?_
              refine ⟨⟨RetP.rows (by decide) rfl (by simp [hjl]) (by simp [insC]) ?_, trivial⟩, trivial⟩
              rw [← List.map_take, hTj]
              exact allR_pu (insR_pu _)
            · simp [keepT, toIdx, hw]
            · simp [passed, toIdx, setOb, hT2, funR, hjl]
      · try simp at h1
        refine EV.exit ?_
        simp -implicitDefEqProofs
        refine EV.seq ?_
        refine EV.drawG tabOK mixedOK ?_ -- region 29
        simp -implicitDefEqProofs +contextual
        refine callG_fun (walk21 funs cos (over_ll hov)) ?_ ?_
        · simp
        simp -implicitDefEqProofs
        refine callG_lend [2] (r := .b (validB funs cos)) (cs' := [.ro 1 (funs.map funR), .ro 5 (cos.map coV)]) rfl (by have := walk21 (funs.map fun f => f.map renI) cos (renR_ll (over_ll hov)); rw [List.map_map, ren_valid] at this; rw [← funR_eq]; exact this) ?_ trivial ?_
        · have hT : (funs.map funR).take i = funs.map funR := List.take_of_length_le (by simp; omega)
          rw [hT]
          exact ⟨View.rows (by decide) rfl (by simp; omega) (by simp [funR]) (allR_puV (rowsR_pu _)), .pu trivial, trivial⟩
        simp -implicitDefEqProofs
        refine And.intro ?_ ?_
        · first | decide +kernel | (simp -implicitDefEqProofs; decide +kernel) | (split <;> decide +kernel)
        try simp -implicitDefEqProofs
        refine EV.ret ?_
        simp only [thenK_ret, blockK_ret, scopeK_ret, bodyK_ret]
        refine Fin.pure0 ?_
        simp [*]
  · skip
    refine EV.regionG tabOK ?_ -- region 5
    simp -implicitDefEqProofs
    refine EV.condT ?_
    simp -implicitDefEqProofs
    refine EV.seq ?_
    refine EV.regionG tabOK ?_ -- region 6
    simp -implicitDefEqProofs
    refine EV.ret ?_
    simp only [thenK_ret, blockK_ret, scopeK_ret, bodyK_ret]
    refine Fin.pure0 ?_
    simp [*]

end Go.Proofs.Tryd
end
section
namespace Go.Proofs.YtaklafpfbhaoaaaDoor
open Go.ChangeShapes Go.WideShapes Go.ChangeAt Go.RowKit Go.AM Go.Proofs.Tryd

set_option maxRecDepth 100000 in
theorem codeRenameLifted (HQ : ∀ (xs0 : List V), shp tab 6 35 xs0 → QC Tryd.prog 7 [.agg xs0] [] (.b true) []) (os : Os) (started : os.Started) (H : Type) (enc : TypeId × Value → H) :
    ReturnsInHanded {} Tryd.checked os 7 .any (fun w args => (Rows.codeRenameSpec.pre enc Tryd.prog Tryd.f7 Rows.codeRenameRow.domain false w args ∧ laidMetH Tryd.prog Rows.codeRenameRow.laid w) ∧ sizedMet enc Tryd.prog Tryd.f7 (OpenSpec.ofChange Rows.codeRenameSpec) false w args)
      (Rows.codeRenameSpec.post enc Tryd.prog Tryd.f7 false true false false) := by
  refine returnsInHanded_of_change_and (C := Tryd.checked) (X := fun w _ => laidMetH Tryd.prog Rows.codeRenameRow.laid w) (fun _ _ _ hh h => h.of_heap hh) ownKnobNone started (by kernel_rfl) Tryd.func7
    (ChangeSpec.witness_shaped (enc := enc) (C := Tryd.checked) (os := os) (X := fun w _ => laidMetH Tryd.prog Rows.codeRenameRow.laid w) false (World.laidAll Tryd.prog os Rows.codeRenameRow.laid) #[.agg #[.slice none 0 0, .slice none 0 0]] 8 (World.laidAll_os _ _ _)
      (World.shaped_of_ZipB (by kernel_rfl) (by kernel_rfl)) (by kernel_rfl) (by kernel_rfl) (by kernel_rfl)
      (by rw [MakeChecks.laidMetH_plain _ _ _ (by kernel_rfl)]; exact laidMet_laidAll _ (by kernel_rfl) (by kernel_rfl))) ?_
  intro W base args ds gs before hval0 hW _ _ _ _
  have hval : ∀ (j : Nat) t v, Tryd.f7.params[j]? = some t → args[j]? = some v → Value.okWide Tryd.prog W .any base t v := hval0
  have hW' := hW
  obtain ⟨p, q, hA0, hV, rfl, _, _⟩ := hW
  have hA : DataW.TrodAll enc Tryd.prog W 0 (fun _ => true) true Tryd.f7.params.toList args.toList ds p := hA0
  rw [Tryd.params7] at hA hval
  obtain ⟨v0, d0, rfl, rfl, h0⟩ := trodAll_one hA
  obtain ⟨rfl, rfl⟩ := trodVars_none hV
  simp only [List.append_nil] at hW'
  have hlt : ∀ x ∈ p, x.block < W.heap.size := fun x hx => by simpa using hW'.lt x hx
  obtain ⟨xs0, hs0, hr0⟩ := arg_struct tabOK (T := tab) (n := 6) (t := 35) rfl (by decide +kernel) (hval 0 35 v0 rfl rfl) h0
  refine ((HQ xs0 hs0).truth (vs := #[v0]) (W := W) rfl (fun ok hok D j x u hx hu => ?_)).mono fun e W' ⟨he, hb⟩ => ?_
  · match j with
    | 0 =>
      simp only [List.getElem?_cons_succ, List.getElem?_cons_zero, Option.some.injEq] at hx
      subst hx
      obtain rfl : v0 = u := by simpa using hu
      exact hr0 ok hok D
    | j + 1 => simp at hx
  · subst he
    refine ⟨_, rfl, _, _, _, [], p, [], hW', ?_, ?_, ?_, hb.frame _, fun h => by cases h⟩
    · exact trodAll_mk1 (shut_bool Tryd.underlying4 true)
    · exact trodAll_mk1 (Below.trod laidOutAll (by kernel_rfl) (of_decide_eq_true (by kernel_rfl)) h0 hb hlt)
    · rfl

theorem codeRenameHolds (HQ : ∀ (xs0 : List V), shp tab 6 35 xs0 → QC Tryd.prog 7 [.agg xs0] [] (.b true) []) : Rows.CodeRenameSaid :=
  OpenClaim.holds_of_wide 7 Tryd.f7 rfl rfl rfl rfl rfl rfl rfl ⟨rfl, rfl, rfl, rfl, rfl⟩ rfl rfl rfl rfl rfl (by kernel_rfl) Tryd.func7 (by kernel_rfl)
    (of_decide_eq_true (by kernel_rfl)) (by unfold Func.isWrapper; rw [if_neg (by decide +kernel)]; exact ⟨rfl, rfl⟩)
    (fun os started H enc _ => codeRenameLifted HQ os started H enc)

theorem codeRenameCard (HQ : ∀ (xs0 : List V), shp tab 6 35 xs0 → QC Tryd.prog 7 [.agg xs0] [] (.b true) []) : Rows.CodeRenameCardSaid :=
  Claim7.holds_tied_plain_at .later [] [.data, .data, .data] true (true, "e0d625a2e69adf01b107668993ea5ba20a030b330d5d389efb3f1299f4f792e2") false (codeRenameHolds HQ) (fun _ h => by cases h) (by kernel_rfl) (fun _ h => by cases h) codeRename_row_tie rfl ⟨rfl, rfl⟩ (by kernel_rfl) rfl
    (fun f fn hf hfn => by
      obtain rfl : f = 7 := Option.some.inj ((show Tryd.prog.funcNamed "cocoon/cocoonlaw02.CodeRename" = some 7 by kernel_rfl).symm.trans hf) |>.symm
      obtain rfl : fn = Tryd.f7 := (Option.some.inj (Tryd.func7.symm.trans hfn)).symm
      exact ⟨by kernel_rfl, fun j t ht => by
        rw [Tryd.params7] at ht
        have hm : t ∈ [35] := by simpa using Array.mem_of_getElem? ht
        have hall : ([35].all fun u => !Tryd.prog.wantsStandIn u) = true := by kernel_rfl
        exact (show Tryd.prog.wantsStandIn t = false by simpa using List.all_eq_true.1 hall t hm)⟩)
    (by kernel_rfl)

theorem codeRename_card : Rows.CodeRenameCardSaid := codeRenameCard fun xs0 hs0 => by
  obtain ⟨funs, cos, rfl⟩ := shp_prog (k := 0) hs0
  exact walk7 funs cos
end Go.Proofs.YtaklafpfbhaoaaaDoor
end
