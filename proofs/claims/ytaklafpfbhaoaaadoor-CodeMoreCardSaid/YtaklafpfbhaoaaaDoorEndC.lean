/- What may be run stays so, behind instructions that are never reached, and beside one more function: CodeMore, tied. No conditions. -/
import Derived.Test.YtaklafpfbhaoaaaDoorWalkD
import Derived.Test.YtaklafpfbhaoaaaDoorEndA
set_option linter.unusedVariables false
set_option linter.unusedSimpArgs false
set_option linter.constructorNameAsVariable false
section
namespace Go.Proofs.Tryd
open Go Go.AM

def constI (k : Nat) : InsD := ⟨0, k, k, 0, []⟩
def endI : InsD := ⟨29, 0, 0, 0, []⟩
def lastI (f : List InsD) : InsD := f.getD (f.length - 1) ⟨0, 0, 0, 0, []⟩
def pairsI (x : InsD) (n : Nat) : List InsD := (List.range n).flatMap fun k => [constI k, x]
def moreF (n : Nat) (f : List InsD) : List InsD := f ++ pairsI (lastI f) n
def moreP (n : Nat) (funs : List (List InsD)) : List (List InsD) := funs.map (moreF n) ++ [[endI]]

theorem pairs_next (x : InsD) (n : Nat) : pairsI x (n + 1) = pairsI x n ++ [constI n, x] := by
  unfold pairsI; rw [List.range_succ, List.flatMap_append]; rfl
theorem pairs_len (x : InsD) (n : Nat) : (pairsI x n).length = 2 * n := by
  induction n with
  | zero => rfl
  | succ n ih => rw [pairs_next, List.length_append, ih]; simp; omega
theorem pairs_mem {x y : InsD} {n : Nat} (h : y ∈ pairsI x n) : y = x ∨ ∃ k, k < n ∧ y = constI k := by
  unfold pairsI at h
  obtain ⟨k, hk, h2⟩ := List.mem_flatMap.1 h
  simp at h2
  rcases h2 with h2 | h2
  · exact .inr ⟨k, List.mem_range.1 hk, h2⟩
  · exact .inl h2
theorem lastI_mem {f : List InsD} (h : 0 < f.length) : lastI f ∈ f := by
  unfold lastI
  rw [List.getD_eq_getElem?_getD, List.getElem?_eq_getElem (by omega)]
  exact List.getElem_mem _
theorem lastFalls_eq {f : List InsD} (h : 0 < f.length) : lastFalls f = fallsI (lastI f).op := by
  unfold lastFalls lastI
  rw [List.getLast?_eq_getElem?, List.getD_eq_getElem?_getD, List.getElem?_eq_getElem (by omega)]
  rfl
theorem more_last {f : List InsD} (h : 0 < f.length) (n : Nat) : lastFalls (moreF n f) = lastFalls f := by
  cases n with
  | zero => simp [moreF, pairsI]
  | succ n =>
    rw [lastFalls_eq h]
    unfold moreF
    rw [pairs_next]
    have : f ++ (pairsI (lastI f) n ++ [constI n, lastI f]) = (f ++ pairsI (lastI f) n ++ [constI n]) ++ [lastI f] := by simp
    rw [this, lastFalls_snoc]

theorem field_more {C : Nat} {ks : List Int} {f v : Int} (h : fieldI C ks f v = true) : fieldI C (ks ++ [0]) f v = true := by
  unfold fieldI at h ⊢
  split
  · rwa [if_pos (by assumption)] at h
  · rw [if_neg (by assumption)] at h
    split
    · rfl
    · rw [if_neg (by assumption)] at h
      split
      · rwa [if_pos (by assumption)] at h
      · rw [if_neg (by assumption)] at h
        split
        · rwa [if_pos (by assumption)] at h
        · rw [if_neg (by assumption)] at h
          split
          · rw [if_pos (by assumption)] at h
            simp only [Bool.and_eq_true, decide_eq_true_eq] at h ⊢
            obtain ⟨⟨h1, h2⟩, h3⟩ := h
            refine ⟨⟨h1, by simp; omega⟩, ?_⟩
            rw [List.getD_eq_getElem?_getD] at h3 ⊢
            rwa [List.getElem?_append_left (by omega)]
          · rwa [if_neg (by assumption)] at h
theorem one_parts {C : Nat} {ks : List Int} {g : Nat} {kind : Int} {x : InsD} : oneD C ks g kind x = true ↔ (shape x.op).2 = true ∧ fieldI C ks (shape x.op).1.1 x.a = true ∧ fieldI C ks (shape x.op).1.2.1 x.b = true ∧ fieldI C ks (shape x.op).1.2.2.1 x.c = true ∧ allowedI kind x.op = true ∧
    ((decide (0 ≤ (shape x.op).1.2.2.2) && !decide ((x.l.length : Int) = (shape x.op).1.2.2.2)) || (decide ((shape x.op).1.2.2.2 < 0) && decide ((x.l.length : Int) = 0))) = false ∧ x.l.any (outP g) = false := by
  unfold oneD oneI
  simp only [Bool.and_eq_true, Bool.not_eq_true']
  constructor
  · rintro ⟨⟨⟨h1, h2, h3, h4, h5⟩, h6⟩, h7⟩; exact ⟨h1, h2, h3, h4, h5, h6, h7⟩
  · rintro ⟨h1, h2, h3, h4, h5, h6, h7⟩; exact ⟨⟨⟨h1, h2, h3, h4, h5⟩, h6⟩, h7⟩
theorem out_more {g g' : Nat} (hg : g ≤ g') {l : List Int} (h : l.any (outP g) = false) : l.any (outP g') = false := by
  rw [List.any_eq_false] at h ⊢
  intro x hx
  have := h x hx
  simp [outP] at this ⊢
  omega
theorem one_more {C : Nat} {ks : List Int} {g g' : Nat} {kind : Int} {x : InsD} (hg : g ≤ g') (h : oneD C ks g kind x = true) : oneD C (ks ++ [0]) g' kind x = true := by
  rw [one_parts] at h ⊢
  obtain ⟨h1, h2, h3, h4, h5, h6, h7⟩ := h
  exact ⟨h1, field_more h2, field_more h3, field_more h4, h5, h6, out_more hg h7⟩
theorem one_const {C : Nat} {ks : List Int} {g : Nat} {kind : Int} {k : Nat} (hk : k < 16) : oneD C ks g kind (constI k) = true := by
  rw [one_parts]
  refine ⟨by simp [constI, shape], ?_, ?_, ?_, by simp [allowedI, constI], by simp [constI, shape], rfl⟩ <;> simp [constI, shape, fieldI]
  exact decide_eq_true (by omega)
theorem one_end {C : Nat} {ks : List Int} : oneD C ks 1 0 endI = true := by
  rw [one_parts]
  refine ⟨by decide, ?_, ?_, ?_, by simp [allowedI, endI], by decide, rfl⟩ <;> simp [endI, shape, fieldI]

theorem reach_app {f g : List InsD} {S0 : Int → Prop} (h0 : 0 < f.length) (hn : ∀ (p : Int) (x : InsD), 0 ≤ p → f[p.toNat]? = some x → ∀ q ∈ nextD x p, 0 ≤ q ∧ q < f.length) {p : Int} {S : Int → Prop} (h : Reach (f ++ g) S0 p S) : Reach f S0 p S ∧ 0 ≤ p ∧ p < f.length := by
  induction h with
  | start => exact ⟨.start, by omega, by omega⟩
  | @step p q S x h hp hx hq ih =>
    obtain ⟨h1, h2, h3⟩ := ih
    rw [List.getElem?_append_left (by omega)] at hx
    exact ⟨.step h1 hp hx hq, hn p x hp hx q hq⟩
theorem ways_app {f g : List InsD} {S0 : Int → Prop} (h0 : 0 < f.length) (hn : ∀ (p : Int) (x : InsD), 0 ≤ p → f[p.toNat]? = some x → ∀ q ∈ nextD x p, 0 ≤ q ∧ q < f.length) (h : waysB f S0 = true) : waysB (f ++ g) S0 = true := by
  unfold waysB at h ⊢
  refine @decide_eq_true _ (Classical.propDecidable _) fun p S hr x hp hx r hr2 => ?_
  have hw : WaysOK f S0 := @of_decide_eq_true _ (Classical.propDecidable _) h
  obtain ⟨h1, h2, h3⟩ := reach_app h0 hn hr
  rw [List.getElem?_append_left (by omega)] at hx
  exact hw p S h1 x hp hx r hr2

theorem right_parts {C : Nat} {ks : List Int} {kind : Int} {f : List InsD} : rightB C ks kind f = true ↔ 0 < f.length ∧ f.length ≤ 65536 ∧ lastFalls f = false ∧ (∀ x ∈ f, oneD C ks f.length kind x = true) ∧ waysB f (startS (if kind = 0 then 1 else 0)) = true := by
  unfold rightB
  simp only [Bool.and_eq_true, Bool.not_eq_true', decide_eq_true_eq, List.all_eq_true]
  constructor
  · rintro ⟨⟨⟨⟨h1, h2⟩, h3⟩, h4⟩, h5⟩; exact ⟨h1, h2, h3, h4, h5⟩
  · rintro ⟨h1, h2, h3, h4, h5⟩; exact ⟨⟨⟨⟨h1, h2⟩, h3⟩, h4⟩, h5⟩
theorem right_more {C : Nat} {ks : List Int} {kind : Int} {f : List InsD} {n : Nat} (hn : n ≤ 5) (hl : f.length ≤ 60) (hll : ∀ x ∈ f, x.l.length ≤ 1000000) (h : rightB C ks kind f = true) : rightB C (ks ++ [0]) kind (moreF n f) = true := by
  rw [right_parts] at h ⊢
  obtain ⟨h1, h2, h3, h4, h5⟩ := h
  have hlen : (moreF n f).length = f.length + 2 * n := by simp [moreF, pairs_len]
  have hok := FunOK.of h1 h2 h3 h4 hll
  refine ⟨by omega, by omega, by rw [more_last h1]; exact h3, fun x hx => ?_, ways_app h1 hok.nx h5⟩
  have hb : ∀ y ∈ f, oneD C (ks ++ [0]) (moreF n f).length kind y = true := fun y hy => one_more (by omega) (h4 y hy)
  rcases List.mem_append.1 hx with h | h
  · exact hb x h
  · rcases pairs_mem h with rfl | ⟨k, hk, rfl⟩
    · exact hb _ (lastI_mem h1)
    · exact one_const (by omega)
theorem right_end {C : Nat} {ks : List Int} : rightB C ks 0 [endI] = true := by
  rw [right_parts]
  refine ⟨by simp, by simp, by decide, fun x hx => ?_, ?_⟩
  · rw [List.mem_singleton.1 hx]; exact one_end
  · unfold waysB
    refine @decide_eq_true _ (Classical.propDecidable _) fun p S hr x hp hx r hr2 => ?_
    have hx2 : x = endI := by
      have := List.mem_of_getElem? hx
      exact List.mem_singleton.1 this
    subst hx2
    have : readsD endI = [] := by decide
    rw [this] at hr2; cases hr2

theorem mark_more {es : List Int} {x k : Int} (h : 0 ≤ x ∧ x < es.length) : markL (es ++ [0]) x k = markL es x k ++ [0] := by
  unfold markL
  rw [if_pos h, if_pos (by simp; omega), List.set_append_left _ _ (by omega)]
theorem fold_more {g : CoD → Int} {v : Int} : ∀ (l : List CoD) (es : List Int), (∀ c ∈ l, 0 ≤ g c ∧ g c < es.length) → l.foldl (fun es c => markL es (g c) v) (es ++ [0]) = l.foldl (fun es c => markL es (g c) v) es ++ [0]
  | [], _, _ => rfl
  | c :: l, es, h => by
    rw [List.foldl_cons, List.foldl_cons, mark_more (h c List.mem_cons_self)]
    refine fold_more l _ fun d hd => ?_
    rw [markL_len]; exact h d (List.mem_cons_of_mem _ hd)
theorem kindsL_len {k : Nat} {cos : List CoD} : (kindsL k cos).length = k := (foldLen _ _ (fun es c => markL_len es _ _)).trans kinds1_len
theorem kinds_more {k : Nat} {cos : List CoD} (h : ∀ c ∈ cos, (0 ≤ c.res ∧ c.res < k) ∧ 0 ≤ c.can ∧ c.can < k) : kindsL (k + 1) cos = kindsL k cos ++ [0] := by
  have h1 : kinds1 (k + 1) cos = kinds1 k cos ++ [0] := by
    unfold kinds1
    rw [List.replicate_succ']
    exact fold_more cos _ fun c hc => by rw [List.length_replicate]; exact (h c hc).2
  unfold kindsL
  rw [h1]
  exact fold_more cos _ fun c hc => by rw [kinds1_len]; exact (h c hc).1

theorem valid_parts {funs : List (List InsD)} {cos : List CoD} : validB funs cos = true ↔ funs.length ≤ 65536 ∧ cos.length ≤ 65536 ∧ (∀ c ∈ cos, coroD (kindsL funs.length cos) c = true) ∧ ∀ j, j < funs.length → rightB cos.length (kindsL funs.length cos) ((kindsL funs.length cos).getD j 0) (funs.getD j []) = true := by
  unfold validB
  simp only [Bool.and_eq_true, decide_eq_true_eq, List.all_eq_true, List.mem_range]
  constructor
  · rintro ⟨⟨⟨h1, h2⟩, h3⟩, h4⟩; exact ⟨h1, h2, h3, h4⟩
  · rintro ⟨h1, h2, h3, h4⟩; exact ⟨⟨⟨h1, h2⟩, h3⟩, h4⟩
theorem coro_more {ks : List Int} {c : CoD} (h : coroD ks c = true) : coroD (ks ++ [0]) c = true := by
  unfold coroD coroB at h ⊢
  simp only [Bool.and_eq_true, decide_eq_true_eq] at h ⊢
  obtain ⟨⟨⟨h1, h2⟩, ⟨h3, h4⟩, h5⟩, h6⟩ := h
  refine ⟨⟨⟨h1, by simp; omega⟩, ⟨h3, by simp; omega⟩, ?_⟩, h6⟩
  rw [List.getD_eq_getElem?_getD] at h5 ⊢
  rwa [List.getElem?_append_left (by omega)]

theorem more_valid {funs : List (List InsD)} {cos : List CoD} {n : Nat} (hn : n ≤ 5) (ho : overB funs cos = false) (h : validB funs cos = true) : validB (moreP n funs) cos = true := by
  rw [valid_parts] at h ⊢
  obtain ⟨h1, h2, h3, h4⟩ := h
  have hs := over_s ho
  have hlen : (moreP n funs).length = funs.length + 1 := by simp [moreP]
  have hk : kindsL (moreP n funs).length cos = kindsL funs.length cos ++ [0] := by
    rw [hlen]
    refine kinds_more fun c hc => ?_
    have := h3 c hc
    unfold coroD coroB at this
    simp only [Bool.and_eq_true, decide_eq_true_eq, kindsL_len] at this
    exact ⟨this.1.1, this.1.2.1⟩
  rw [hk]
  refine ⟨by omega, h2, fun c hc => coro_more (h3 c hc), fun j hj => ?_⟩
  rw [hlen] at hj
  rcases Nat.lt_or_ge j funs.length with hlt | hge
  · have e1 : (moreP n funs).getD j [] = moreF n (funs.getD j []) := by
      simp [moreP, List.getD, List.getElem?_append_left, hlt]
    have e2 : (kindsL funs.length cos ++ [0]).getD j 0 = (kindsL funs.length cos).getD j 0 := by
      rw [List.getD_eq_getElem?_getD, List.getD_eq_getElem?_getD, List.getElem?_append_left (by rw [kindsL_len]; exact hlt)]
    have e3 : funs.getD j [] ∈ funs := by
      rw [List.getD_eq_getElem?_getD, List.getElem?_eq_getElem hlt]; exact List.getElem_mem _
    rw [e1, e2]
    exact right_more hn (over_f ho e3) (over_ll ho _ e3) (h4 j hlt)
  · have hj2 : j = funs.length := by omega
    subst hj2
    have e1 : (moreP n funs).getD funs.length [] = [endI] := by simp [moreP, List.getD]
    have e2 : (kindsL funs.length cos ++ [0]).getD funs.length 0 = 0 := by
      simp [List.getD, kindsL_len]
    rw [e1, e2]
    exact right_end

def callsP (x : InsD) : Bool := decide (x.op = 26) || decide (x.op = 22)
def no67 (op : Int) (s : (Int × Int × Int × Int) × Bool) : Prop := (s.1.1 = 6 ∨ s.1.1 = 7 ∨ s.1.2.1 = 6 ∨ s.1.2.1 = 7 ∨ s.1.2.2.1 = 6 ∨ s.1.2.2.1 = 7) → op = 26 ∨ op = 22
theorem no67_ite {op : Int} {c : Prop} [Decidable c] {x y : (Int × Int × Int × Int) × Bool} (hx : c → no67 op x) (hy : no67 op y) : no67 op (if c then x else y) := by
  split
  · exact hx (by assumption)
  · exact hy
theorem shape67 (op : Int) : no67 op (shape op) := by
  unfold shape
  repeat' (refine no67_ite ?_ ?_)
  all_goals (unfold no67; simp)
  · intro h; exact .inr h
  · intro h; exact .inl h
theorem field_alone {C : Nat} {ks : List Int} {f v : Int} (h6 : ¬ f = 6) (h7 : ¬ f = 7) (h : fieldI C ks f v = true) : fieldI 0 [0] f v = true := by
  unfold fieldI at h ⊢
  rw [if_neg h6, if_neg h7] at h ⊢
  exact h
theorem alone_valid {funs : List (List InsD)} {cos : List CoD} (h : validB funs cos = true) {j : Nat} (hj : j < funs.length) (hk : (kindsL funs.length cos).getD j 0 = 0) (hc : funs[j].any callsP = false) : validB [funs[j]] [] = true := by
  rw [valid_parts] at h ⊢
  obtain ⟨h1, h2, h3, h4⟩ := h
  refine ⟨by simp, by simp, fun c hc => (List.not_mem_nil hc).elim, fun i hi => ?_⟩
  have hi0 : i = 0 := by simpa using hi
  subst hi0
  have h5 := h4 j hj
  rw [hk] at h5
  have e1 : funs.getD j [] = funs[j] := by simp [List.getD, hj]
  rw [e1] at h5
  show rightB 0 [0] 0 funs[j] = true
  rw [right_parts] at h5 ⊢
  obtain ⟨g1, g2, g3, g4, g5⟩ := h5
  refine ⟨g1, g2, g3, fun x hx => ?_, g5⟩
  have hx2 := List.any_eq_false.1 hc x hx
  simp [callsP] at hx2
  have := g4 x hx
  rw [one_parts] at this ⊢
  obtain ⟨f1, f2, f3, f4, f5⟩ := this
  have hs := shape67 x.op
  unfold no67 at hs
  refine ⟨f1, field_alone ?_ ?_ f2, field_alone ?_ ?_ f3, field_alone ?_ ?_ f4, f5⟩ <;> intro he <;> have := hs (by simp [he]) <;> omega
theorem more_ll {funs : List (List InsD)} {cos : List CoD} {n : Nat} (ho : overB funs cos = false) : ∀ f ∈ moreP n funs, ∀ x ∈ f, x.l.length ≤ 1000000 := by
  intro f hf x hx
  rcases List.mem_append.1 hf with h | h
  · obtain ⟨g, hg, rfl⟩ := List.mem_map.1 h
    have hall := over_ll ho g hg
    rcases List.mem_append.1 hx with h2 | h2
    · exact hall x h2
    · rcases pairs_mem h2 with rfl | ⟨k, hk, rfl⟩
      · unfold lastI
        rw [List.getD_eq_getElem?_getD]
        cases hq : g[g.length - 1]? with
        | none => simp
        | some y => exact hall y (List.mem_of_getElem? hq)
      · simp [constI]
  · rw [List.mem_singleton.1 h] at hx
    rw [List.mem_singleton.1 hx]; simp [endI]
theorem more_cases (funs : List (List InsD)) (cos : List CoD) (m : Int) : overB funs cos = true ∨ (overB funs cos = false ∧ validB funs cos = false) ∨ (overB funs cos = false ∧ validB funs cos = true ∧ m < 0) ∨
    (overB funs cos = false ∧ validB funs cos = true ∧ ¬ m < 0 ∧ 5 < m) ∨ (overB funs cos = false ∧ validB funs cos = true ∧ ¬ m < 0 ∧ ¬ 5 < m) := by
  cases overB funs cos <;> cases validB funs cos <;> simp <;> omega
theorem valid_pos {funs : List (List InsD)} {cos : List CoD} (h : validB funs cos = true) {j : Nat} (hj : j < funs.length) : 0 < funs[j].length := by
  have h5 := (valid_parts.1 h).2.2.2 j hj
  have e1 : funs.getD j [] = funs[j] := by simp [List.getD, hj]
  rw [e1] at h5
  exact (right_parts.1 h5).1
end Go.Proofs.Tryd
end
section
namespace Go.Proofs.Tryd
open Go Go.AM
attribute [local simp] wpG_op wpG_nil contG_some wpG_guard guardG_v guardG_o guardG_tup gval pureOp stepG_if isPick pickG_pick pickB_b pickOK isCall step_move step_assign step_alloc step_box boxV_some step_load step_store step_binOp step_unOp step_fieldAddr faV step_indexAddr ixA_slc ixA_arr step_extract extV_tup step_nilCheck ncV_ptr ncV_rp ncV_fn ncV_mp step_build buildV step_buildSlice bsV step_index ixV_arr ixV_str step_append apB step_makeSlice msV_i step_makeFunc over step_len step_makeMap mmV step_mapUpdate step_insert muA_map muB_mp step_lookup lkA_map lkB_mp step_slice slcV_s slcV_sl slcV_ro cutB_some slObV_arr bound_none bound_some bndV_i lenB_str lenB_ro lenB_sl lenB_nil lenB_z ld_ptr ld_rp offV_ptr offV_rp idxV_ro idxV_sl unV_not unV_neg binV_int binV_str binV_eqlb binV_neqb intOp strOp St.put updL setOb St.ev toV St.lk cellsOf AM.valOf TK.agg stv fillV places TI.zero condT_true condT_false finS resL resSlot packV ren ren1 ren0 Value.cells builtinV appendV elemsOf keepT room_of wrap_in toIdx passed Function.comp_def take_len_map lenV touchOf hid tab1 tab2 tab3 tab4 tab5 tab6 tab7 tab8 tab9 tab10 tab11 tab12 tab13 tab14 tab15 tab16 tab17 tab18 tab19 tab20 tab21 tab22 tab23 tab24 tab25 tab26 tab28 tab29 tab30 tab31 tab32 tab33 tab34 tab35 tab36 tab37 tab38 tab39 tab40 tab41 tab42 tab43 tab44 tab45 tab46 tab48 tab49 tab50 tab51 tab52 tab53 tab54 tab55 tab56 tab57 tab58 tab59 tab60 tab61 tab62 tab63 tab64 tab65 tab67 tab68 tab69 tab70 tab71 tab72 tab73 tab74 tab75 tab76 tab77 tab78 tab79 tab80 tab81 tab82 tab83 tab84 tab85 tab86 tab89 tab90 tab91 tab92 tab93 tab94 tab95 tab96 tab98 tab99 tab100 tab101 tab102 tab103 tab104 tab105 tab106 tab107 tab108 tab109 tab113 tab114 tab115 tab116 tab117 tab118 tab119 tab120 ren_arr ren_gone ren_unborn
set_option linter.unusedSimpArgs false
set_option maxRecDepth 10000
set_option maxHeartbeats 4000000

def funM (q : Nat) (f : List InsD) : List V := [.ro 5 ((moreF q f).map insC)]
def rawC (k : Nat) : List V := [.i .i64 0, n k, n k, .i .i64 0, .c (.slice none 0 0)]
def rawP (x : InsD) (k : Nat) : List (List V) := (List.range k).flatMap fun j => [rawC j, insC x]
theorem rawP_next (x : InsD) (k : Nat) : rawP x (k + 1) = rawP x k ++ [rawC k, insC x] := by
  unfold rawP; rw [List.range_succ, List.flatMap_append]; rfl
theorem rawP_len (x : InsD) (k : Nat) : (rawP x k).length = 2 * k := by
  induction k with
  | zero => rfl
  | succ k ih => rw [rawP_next, List.length_append, ih]; simp; omega
theorem takeMapM {α : Type} (g : α → List V) {l : List α} {i : Nat} (h : i < l.length) : List.take (i + 1) (l.map g) = List.take i (l.map g) ++ [g l[i]] := by
  have h5 : i < (l.map g).length := by simpa using h
  rw [← List.take_append_getElem h5]; simp
theorem rowsM_pu (q : Nat) (l : List (List InsD)) : allPu (l.map (funM q)) := by
  intro e he y hy
  obtain ⟨f, _, rfl⟩ := List.mem_map.1 he
  rw [List.mem_singleton.1 hy]; trivial
theorem insR1 {lk : Nat → Ob} {sel : List Nat} (x : InsD) : allP (RetP lk sel) (insC x) (insC x) := ⟨.pu trivial, .pu trivial, .pu trivial, .pu trivial, .pu trivial, trivial⟩
theorem rawR {lk : Nat → Ob} {sel : List Nat} (x : InsD) (k : Nat) : allR (RetP lk sel) (rawP x k) ((pairsI x k).map insC) := by
  induction k with
  | zero => trivial
  | succ k ih =>
    rw [rawP_next, pairs_next, List.map_append]
    exact allR_app ih ⟨⟨.pu trivial, .pu trivial, .pu trivial, .pu trivial, .nil 1, trivial⟩, insR1 x, trivial⟩
theorem moreR {lk : Nat → Ob} {sel : List Nat} {q : Nat} {f : List InsD} : allR (RetP lk sel) (f.map insC ++ rawP (lastI f) q) ((moreF q f).map insC) := by
  unfold moreF
  rw [List.map_append]
  exact allR_app (allR_pu (ins_pu f)) (rawR _ _)
theorem lastI_get {f : List InsD} (h : 0 < f.length) : (Option.map insC f[f.length - 1]?).getD [] = insC (lastI f) := by
  unfold lastI
  rw [List.getD_eq_getElem?_getD, List.getElem?_eq_getElem (by omega)]
  rfl
noncomputable def callsB (funs : List (List InsD)) (cos : List CoD) (i k : Nat) : Bool := !decide ((kindsL funs.length cos).getD i 0 = 0) || ((funs.getD i []).take k).any callsP
theorem callsB_next {funs : List (List InsD)} {cos : List CoD} {i k : Nat} (hi : i < funs.length) (hk : k < funs[i].length) : callsB funs cos i (k + 1) = (callsB funs cos i k || (decide (funs[i][k].op = 26) || decide (funs[i][k].op = 22))) := by
  have e1 : funs.getD i [] = funs[i] := by simp [List.getD, hi]
  unfold callsB
  rw [e1, ← List.take_append_getElem hk, List.any_append, Bool.or_assoc]
  simp [callsP]
theorem callsB_false {funs : List (List InsD)} {cos : List CoD} {i : Nat} (hi : i < funs.length) (h : callsB funs cos i funs[i].length = false) : (kindsL funs.length cos).getD i 0 = 0 ∧ funs[i].any callsP = false := by
  have e1 : funs.getD i [] = funs[i] := by simp [List.getD, hi]
  unfold callsB at h
  rw [e1, List.take_length] at h
  simpa using h
theorem calls3 (b : Bool) (op : Int) : b = true ∨ (b = false ∧ op = 26) ∨ (b = false ∧ ¬ op = 26 ∧ op = 22) ∨ (b = false ∧ ¬ op = 26 ∧ ¬ op = 22) := by
  cases b <;> simp; omega
theorem funM_ren {μ : Nat → Option Nat} {q : Nat} {f : List InsD} : List.map (ren0 μ) (funM q f) = funM q f := rfl
theorem insC_ren6 {μ : Nat → Option Nat} {x : InsD} : List.map (ren0 μ) (insC x) = insC x := rfl
theorem rawC_ren {μ : Nat → Option Nat} {k : Nat} : List.map (ren0 μ) (rawC k) = rawC k := rfl
attribute [local simp] funM_ren insC_ren6 rawC_ren
theorem rawP_ren {μ : Nat → Option Nat} {x : InsD} {k : Nat} : List.map (fun e => List.map (ren0 μ) e) (rawP x k) = rawP x k := by
  induction k with
  | zero => rfl
  | succ k ih => rw [rawP_next, List.map_append, ih]; rfl
theorem map_ins6 (l : List InsD) : List.map (fun x : InsD => [n x.op, n x.a, n x.b, n x.c, V.ro 1 (List.map (fun z => [n z]) x.l)]) l = List.map insC l := rfl
theorem walk6 (funs : List (List InsD)) (cos : List CoD) (m : Int) : QC prog 6 [.agg [.ro 1 (funs.map funC), .ro 5 (cos.map coV)], n m] [] (.b true) [] := by
  refine QC.of_body tabOK func6 rfl (by kernel_rfl) ?_
  simp only [f6]
  refine EV.seq ?_
  refine EV.regionG tabOK ?_ -- region 0
  simp -implicitDefEqProofs
  refine EV.seq ?_
  refine EV.regionG tabOK ?_ -- region 1
  simp -implicitDefEqProofs
  refine callG_fun (walk10) ?_ ?_
  · simp [insV]
  try simp -implicitDefEqProofs
  refine EV.seq ?_
  refine EV.seq ?_
  refine EV.regionG tabOK ?_ -- region 2
  simp -implicitDefEqProofs
  refine EV.condT ?_
  simp -implicitDefEqProofs
  refine EV.skip ?_
  simp only [thenK_normal, blockK_normal, scopeK_normal]
  refine EV.seq ?_
  refine EV.regionG tabOK ?_ -- region 4
  simp -implicitDefEqProofs
  refine callG_fun (walk18 funs cos) ?_ ?_
  · simp [insV]
  try simp -implicitDefEqProofs
  refine EV.seq ?_
  refine EV.seq ?_
  rcases more_cases funs cos m with e1 | ⟨e1, e2⟩ | ⟨e1, e2, e3⟩ | ⟨e1, e2, e3, e4⟩ | ⟨e1, e2, e3, e4⟩
  · skip
    refine EV.regionG tabOK ?_ -- region 5
    simp -implicitDefEqProofs +contextual [e1]
    refine EV.condT ?_
    simp -implicitDefEqProofs
    refine EV.seq ?_
    refine EV.regionG tabOK ?_ -- region 6
    simp -implicitDefEqProofs
    refine EV.ret ?_
    simp only [thenK_ret, blockK_ret, scopeK_ret, bodyK_ret]
    refine Fin.pure0 ?_
    simp [*]
  · skip
    refine EV.regionG tabOK ?_ -- region 5
    simp -implicitDefEqProofs +contextual [e1, e2]
    refine callG_fun (walk21 funs cos (over_ll e1)) ?_ ?_
    · simp [*]
    try simp -implicitDefEqProofs [e1, e2]
    refine EV.condT ?_
    simp -implicitDefEqProofs
    refine EV.seq ?_
    refine EV.regionG tabOK ?_ -- region 6
    simp -implicitDefEqProofs
    refine EV.ret ?_
    simp only [thenK_ret, blockK_ret, scopeK_ret, bodyK_ret]
    refine Fin.pure0 ?_
    simp [*]
  · skip
    refine EV.regionG tabOK ?_ -- region 5
    simp -implicitDefEqProofs +contextual [e1, e2, e3]
    refine callG_fun (walk21 funs cos (over_ll e1)) ?_ ?_
    · simp [*]
    try simp -implicitDefEqProofs [e1, e2, e3]
    refine EV.condT ?_
    simp -implicitDefEqProofs
    refine EV.seq ?_
    refine EV.regionG tabOK ?_ -- region 6
    simp -implicitDefEqProofs
    refine EV.ret ?_
    simp only [thenK_ret, blockK_ret, scopeK_ret, bodyK_ret]
    refine Fin.pure0 ?_
    simp [*]
  · skip
    refine EV.regionG tabOK ?_ -- region 5
    simp -implicitDefEqProofs +contextual [e1, e2, e3, e4]
    refine callG_fun (walk21 funs cos (over_ll e1)) ?_ ?_
    · simp [*]
    try simp -implicitDefEqProofs [e1, e2, e3, e4]
    refine EV.condT ?_
    simp -implicitDefEqProofs
    refine EV.seq ?_
    refine EV.regionG tabOK ?_ -- region 6
    simp -implicitDefEqProofs
    refine EV.ret ?_
    simp only [thenK_ret, blockK_ret, scopeK_ret, bodyK_ret]
    refine Fin.pure0 ?_
    simp [*]
  · skip
    refine EV.regionG tabOK ?_ -- region 5
    simp -implicitDefEqProofs +contextual [e1, e2, e3, e4]
    refine callG_fun (walk21 funs cos (over_ll e1)) ?_ ?_
    · simp [*]
    try simp -implicitDefEqProofs [e1, e2, e3, e4]
    refine EV.condT ?_
    simp -implicitDefEqProofs
    refine EV.skip ?_
    simp only [thenK_normal, blockK_normal, scopeK_normal]
    refine EV.seq ?_
    refine EV.regionG tabOK ?_ -- region 7
    simp -implicitDefEqProofs
    refine EV.seq ?_
    refine EV.seq ?_
    have hos := over_s e1
    refine EV.regionG tabOK ?_ -- region 8
    simp -implicitDefEqProofs
    refine EV.block ?_
    refine EV.loopB ((fun i => ⟨[.junk, n m, .ptr 0 0 0 0, .junk, .junk, .b true, .junk, .ptr 1 0 0 0, n i.1, .junk, .junk, .junk, .junk, .junk, .junk, .junk, .junk, .junk, .junk, .junk, .junk, .junk, .junk, .junk, .junk, .junk, .junk, .junk, .junk, .junk, .junk, .junk, .junk, .junk, .junk, .junk, .junk, .junk, .junk, .junk, .junk, .junk, .junk, .junk, .junk, .junk, .junk, .junk, .junk, .junk, .junk, .junk, .junk, .junk, .junk, .junk, .junk, .junk, .junk, .junk, .junk, .junk, .junk, .junk, .junk, .junk, .junk, .junk, .junk, .junk, .junk, .junk, .junk, .junk, .junk, .junk, .junk, .junk, .junk, .junk, .junk, .junk, .junk, .junk, .junk, .junk, .junk, .junk, .junk, .junk, .junk, .junk, .junk, .junk, .junk, .junk, .junk, .junk, .junk, .junk, .junk, .junk, .junk, .junk, .junk, .junk, .junk, .junk, .junk, .junk, .junk, .junk, .junk, .junk, .junk, .junk, .junk, .junk, .junk, .junk, .junk, .junk, .junk, .junk, .junk, .junk, .junk, .junk, .junk, .junk, .junk, .junk, .junk, .junk, .junk, .junk, .junk, .junk, .junk, .junk, .junk, .junk, .junk, .junk, .junk, .junk, .junk, .junk, .junk, .junk, .junk], [.arr 0 2 [[.ro 1 (funs.map funC), .ro 5 (cos.map coV)]], .arr 0 2 [[.sl 2 i.1 0 i.1, .ro 5 (cos.map coV)]], .arr i.1 1 ((funs.take i.1).map (funM m.toNat))]⟩ : { i : Nat // i ≤ funs.length } → St)) (fun i => funs.length - i.1) (⟨0, by simp⟩) ?_ ?_
    · skip
      refine Sub.trans (Sub.nilCell 1 0 0 1 (by decide) rfl rfl rfl) ?_
      simp [setOb]
      refine Sub.cutE 3 [false, true, true, false, false, true, false, true, true, false, false, false, false, false, false, false, false, false, false, false, false, false, false, false, false, false, false, false, false, false, false, false, false, false, false, false, false, false, false, false, false, false, false, false, false, false, false, false, false, false, false, false, false, false, false, false, false, false, false, false, false, false, false, false, false, false, false, false, false, false, false, false, false, false, false, false, false, false, false, false, false, false, false, false, false, false, false, false, false, false, false, false, false, false, false, false, false, false, false, false, false, false, false, false, false, false, false, false, false, false, false, false, false, false, false, false, false, false, false, false, false, false, false, false, false, false, false, false, false, false, false, false, false, false, false, false, false, false, false, false, false, false, false, false, false, false, false, false, false, false, false] (by simp) ?_ ?_ <;> simp [List.range_succ, toIdx_range, passed, keepT, *]
    · skip
      rintro ⟨i, hi⟩
      simp only
      refine EV.seq ?_
      refine EV.seq ?_
      refine EV.regionG tabOK ?_ -- region 9
      simp -implicitDefEqProofs
      refine EV.condT ?_
      simp -implicitDefEqProofs
      refine condT_intro (fun h1 => ?_) (fun h1 => ?_)
      · try simp at h1
        refine EV.skip ?_
        simp only [thenK_normal, blockK_normal, scopeK_normal]
        refine EV.seq ?_
        refine EV.block ?_
        refine EV.seq ?_
        have hiF : i < funs.length := by first | assumption | omega
        have hof := over_f e1 (List.getElem_mem hiF)
        have hpos := valid_pos e2 hiF
        refine EV.regionG tabOK ?_ -- region 11
        simp -implicitDefEqProofs
        refine EV.seq ?_
        have hroom : roomFor funs[i].length 56 := room_of (by omega) (by decide)
        refine EV.regionG tabOK ?_ -- region 12
        simp -implicitDefEqProofs [hiF, funC, hroom]
        refine EV.seq ?_
        have hwl : IntKind.i64.wrap ((funs[i].length : Int) - 1) = ((funs[i].length - 1 : Nat) : Int) := by rw [wrap_in _ (by omega) (by omega)]; omega
        have hlt : funs[i].length - 1 < funs[i].length := by omega
        have hlE : funs[i][funs[i].length - 1] = lastI funs[i] := by unfold lastI; rw [List.getD_eq_getElem?_getD, List.getElem?_eq_getElem hlt]; rfl
        have hlast : (Option.map insC funs[i][funs[i].length - 1]?).getD [] = insC (lastI funs[i]) := lastI_get hpos
        refine EV.regionG tabOK ?_ -- region 13
        simp -implicitDefEqProofs [hwl, hlt, hpos, hlE, hlast, insC]
        refine EV.seq ?_
        refine EV.seq ?_
        refine EV.regionG tabOK ?_ -- region 14
        simp -implicitDefEqProofs
        refine EV.block ?_
        refine EV.loopB ((fun k => ⟨[.junk, n m, .ptr 0 0 0 0, .junk, .junk, .b true, .junk, .ptr 1 0 0 0, n i, .sl 3 k.1 0 (funs[i].length + 2 * k.1), .ptr 4 0 0 0, n k.1, .junk, .junk, .junk, .junk, .junk, .junk, .junk, .junk, .junk, .junk, .junk, .junk, .junk, .junk, .junk, .junk, .junk, .junk, .junk, .junk, .junk, .junk, .junk, .junk, .junk, .junk, .junk, .junk, .junk, .junk, .junk, .junk, .junk, .junk, .junk, .junk, .junk, .junk, .junk, .junk, .junk, .junk, .junk, .junk, .junk, .junk, .junk, .junk, .junk, .junk, .junk, .junk, .junk, .junk, .junk, .junk, .junk, .junk, .junk, .junk, .junk, .junk, .junk, .junk, .junk, .junk, .junk, .junk, .junk, .junk, .junk, .junk, .junk, .junk, .junk, .junk, .junk, .junk, .junk, .junk, .junk, .junk, .junk, .junk, .junk, .junk, .junk, .junk, .junk, .junk, .junk, .junk, .junk, .junk, .junk, .junk, .junk, .junk, .junk, .junk, .junk, .junk, .junk, .junk, .junk, .junk, .junk, .junk, .junk, .junk, .junk, .junk, .junk, .junk, .junk, .junk, .junk, .junk, .junk, .junk, .junk, .junk, .junk, .junk, .junk, .junk, .junk, .junk, .junk, .junk, .junk, .junk, .junk, .junk, .junk, .junk, .junk, .junk, .junk], [.arr 0 2 [[.ro 1 (funs.map funC), .ro 5 (cos.map coV)]], .arr 0 2 [[.sl 2 i 0 i, .ro 5 (cos.map coV)]], .arr i 1 ((funs.take i).map (funM m.toNat)), .arr k.1 5 (funs[i].map insC ++ rawP (lastI funs[i]) k.1), .arr 0 5 [insC (lastI funs[i])]]⟩ : { k : Nat // k ≤ m.toNat } → St)) (fun k => m.toNat - k.1) (⟨0, by simp⟩) ?_ ?_
        · skip
          refine Sub.cutE 5 [false, true, true, false, false, true, false, true, true, true, true, true, false, false, false, false, false, false, false, false, false, false, false, false, false, false, false, false, false, false, false, false, false, false, false, false, false, false, false, false, false, false, false, false, false, false, false, false, false, false, false, false, false, false, false, false, false, false, false, false, false, false, false, false, false, false, false, false, false, false, false, false, false, false, false, false, false, false, false, false, false, false, false, false, false, false, false, false, false, false, false, false, false, false, false, false, false, false, false, false, false, false, false, false, false, false, false, false, false, false, false, false, false, false, false, false, false, false, false, false, false, false, false, false, false, false, false, false, false, false, false, false, false, false, false, false, false, false, false, false, false, false, false, false, false, false, false, false, false, false, false] (by simp) ?_ ?_ <;> simp [List.range_succ, toIdx_range, passed, keepT, insC, map_ins6, rawP, *]
        · skip
          rintro ⟨k, hk⟩
          simp only
          refine EV.seq ?_
          refine EV.seq ?_
          have hm0 : (0 : Int) ≤ m := by omega
          refine EV.regionG tabOK ?_ -- region 15
          simp -implicitDefEqProofs
          refine EV.condT ?_
          simp -implicitDefEqProofs
          refine condT_intro (fun h2 => ?_) (fun h2 => ?_)
          · try simp at h2
            refine EV.skip ?_
            simp only [thenK_normal, blockK_normal, scopeK_normal]
            refine EV.seq ?_
            refine EV.block ?_
            have hroom : roomFor (funs[i].length + 2 * k + 2) 56 := room_of (by omega) (by decide)
            have hrl := rawP_len (lastI funs[i]) k
            have htk : List.take (funs[i].length + 2 * k) (List.map insC funs[i] ++ rawP (lastI funs[i]) k) = List.map insC funs[i] ++ rawP (lastI funs[i]) k := List.take_of_length_le (by simp [rawP_len])
            refine EV.regionG tabOK ?_ -- region 17
            simp -implicitDefEqProofs [hroom, hrl, htk, insC]
            refine EV.regionG tabOK ?_ -- region 16
            simp -implicitDefEqProofs
            have hw : IntKind.i64.wrap ((k : Int) + 1) = (k : Int) + 1 := wrap_in _ (by omega) (by omega)
            refine ⟨⟨k + 1, by omega⟩, by simp; omega, ?_⟩
            refine Sub.cutE 5 [false, true, true, false, false, true, false, true, true, true, true, true, false, false, false, false, false, false, false, false, false, false, false, false, false, false, false, false, false, false, false, false, false, false, false, false, false, false, false, false, false, false, false, false, false, false, false, false, false, false, false, false, false, false, false, false, false, false, false, false, false, false, false, false, false, false, false, false, false, false, false, false, false, false, false, false, false, false, false, false, false, false, false, false, false, false, false, false, false, false, false, false, false, false, false, false, false, false, false, false, false, false, false, false, false, false, false, false, false, false, false, false, false, false, false, false, false, false, false, false, false, false, false, false, false, false, false, false, false, false, false, false, false, false, false, false, false, false, false, false, false, false, false, false, false, false, false, false, false, false, false] (by simp) ?_ ?_ <;> simp [List.range_succ, toIdx_range, passed, keepT, hw, rawP_next, rawP_ren, insC, map_ins6, rawC, Nat.mul_add, Nat.add_assoc, rawP_len]
          · try simp at h2
            refine EV.exit ?_
            simp -implicitDefEqProofs
            have hroom2 : roomFor (i + 1) 24 := room_of (by omega) (by decide)
            have hmin2 : min i funs.length = i := by omega
            refine EV.regionG tabOK ?_ -- region 18
            simp -implicitDefEqProofs [hroom2, hmin2, List.take_take]
            refine EV.regionG tabOK ?_ -- region 10
            simp -implicitDefEqProofs
            have hw : IntKind.i64.wrap ((i : Int) + 1) = (i : Int) + 1 := wrap_in _ (by omega) (by omega)
            have hkm : k = m.toNat := by omega
            have hTi := List.take_append_getElem hiF
            have hT2 := takeMapM (funM m.toNat) hiF
            refine ⟨⟨i + 1, by omega⟩, by simp; omega, ?_⟩
            refine Sub.adoptR [0, 1, 2] [false, true, true, false, false, true, false, true, true, false, false, false, false, false, false, false, false, false, false, false, false, false, false, false, false, false, false, false, false, false, false, false, false, false, false, false, false, false, false, false, false, false, false, false, false, false, false, false, false, false, false, false, false, false, false, false, false, false, false, false, false, false, false, false, false, false, false, false, false, false, false, false, false, false, false, false, false, false, false, false, false, false, false, false, false, false, false, false, false, false, false, false, false, false, false, false, false, false, false, false, false, false, false, false, false, false, false, false, false, false, false, false, false, false, false, false, false, false, false, false, false, false, false, false, false, false, false, false, false, false, false, false, false, false, false, false, false, false, false, false, false, false, false, false, false, false, false, false, false, false, false] 2 2 ((funs.take (i + 1)).map (funM m.toNat)) (by decide) (by simp) rfl rfl ?_ ?_ ?_ ?_
            · intro x hx; obtain ⟨f, _, rfl⟩ := List.mem_map.1 hx; rfl
            · rw [← hTi, List.map_append, ← List.map_take]
              refine allR_app (allR_pu (rowsM_pu _ _)) ?_
              exact ⟨⟨RetP.rows (by decide) rfl (by simp [rawP_len]) (by simp [insC]) (by rw [hkm]; exact moreR), trivial⟩, trivial⟩
            · simp [keepT, toIdx, hw]
            · simp [passed, toIdx, setOb, hT2, funM]
      · try simp at h1
        refine EV.exit ?_
        simp -implicitDefEqProofs
        refine EV.seq ?_
        have hroom3 : roomFor (i + 1) 24 := room_of (by omega) (by decide)
        have hmin3 : min i funs.length = i := by omega
        have hroom4 : roomFor 1 56 := room_of (by omega) (by decide)
        have hroom5 : roomFor 1 24 := room_of (by omega) (by decide)
        refine EV.regionG tabOK ?_ -- region 19
        simp -implicitDefEqProofs [hroom3, hmin3, hroom4, hroom5, List.take_take]
        refine EV.seq ?_
        refine EV.seq ?_
        refine EV.regionG tabOK ?_ -- region 20
        simp -implicitDefEqProofs
        have hiL : i = funs.length := by omega
        subst hiL
        refine callG_lend [2, 3] (r := .b true) (cs' := [.ro 1 ((moreP m.toNat funs).map funC), .ro 5 (cos.map coV)]) rfl (by have := walk21 (moreP m.toNat funs) cos (more_ll e1); rw [more_valid (by omega) e1 e2] at this; exact this) ?_ trivial ?_
        · have hT : (funs.map (funM m.toNat)).take funs.length = funs.map (funM m.toNat) := List.take_of_length_le (by simp)
          have hMP : (moreP m.toNat funs).map funC = funs.map (funM m.toNat) ++ [[.ro 5 [insC endI]]] := by simp [moreP, funM, funC, Function.comp_def]
          rw [hMP]
          try rw [hT]
          exact ⟨View.rows (by decide) rfl (by simp) (by
            intro x hx
            rcases List.mem_append.1 hx with h | h
            · obtain ⟨f, _, rfl⟩ := List.mem_map.1 h; rfl
            · rw [List.mem_singleton.1 h]; rfl) (allR_app (allR_puV (rowsM_pu _ _)) ⟨⟨View.rows (by decide) rfl rfl (by simp [insC]) ⟨⟨.pu trivial, .pu trivial, .pu trivial, .pu trivial, .nil 1, trivial⟩, trivial⟩, trivial⟩, trivial⟩), .pu trivial, trivial⟩
        try simp -implicitDefEqProofs
        refine EV.condT ?_
        simp -implicitDefEqProofs
        refine EV.skip ?_
        simp only [thenK_normal, blockK_normal, scopeK_normal]
        refine EV.seq ?_
        refine EV.regionG tabOK ?_ -- region 22
        simp -implicitDefEqProofs
        refine callG_fun (walk19 (funs.map funC) cos (by simp; omega) (by omega)) ?_ ?_
        · simp [*]
        try simp -implicitDefEqProofs
        refine EV.seq ?_
        refine EV.seq ?_
        refine EV.regionG tabOK ?_ -- region 23
        simp -implicitDefEqProofs [kindsL_len]
        refine EV.condT ?_
        simp -implicitDefEqProofs
        refine EV.skip ?_
        simp only [thenK_normal, blockK_normal, scopeK_normal]
        refine EV.seq ?_
        refine EV.seq ?_
        refine EV.regionG tabOK ?_ -- region 25
        simp -implicitDefEqProofs
        refine EV.block ?_
        refine EV.loopB ((fun i => ⟨[.junk, .junk, .ptr 0 0 0 0, .junk, .junk, .b true, .junk, .junk, .junk, .junk, .junk, .junk, .ro 1 ((kindsL funs.length cos).map fun z => [n z]), n i.1, .junk, .junk, .junk, .junk, .junk, .junk, .junk, .junk, .junk, .junk, .junk, .junk, .junk, .junk, .junk, .junk, .junk, .junk, .junk, .junk, .junk, .junk, .junk, .junk, .junk, .junk, .junk, .junk, .junk, .junk, .junk, .junk, .junk, .junk, .junk, .junk, .junk, .junk, .junk, .junk, .junk, .junk, .junk, .junk, .junk, .junk, .junk, .junk, .junk, .junk, .junk, .junk, .junk, .junk, .junk, .junk, .junk, .junk, .junk, .junk, .junk, .junk, .junk, .junk, .junk, .junk, .junk, .junk, .junk, .junk, .junk, .junk, .junk, .junk, .junk, .junk, .junk, .junk, .junk, .junk, .junk, .junk, .junk, .junk, .junk, .junk, .junk, .junk, .junk, .junk, .junk, .junk, .junk, .junk, .junk, .junk, .junk, .junk, .junk, .junk, .junk, .junk, .junk, .junk, .junk, .junk, .junk, .junk, .junk, .junk, .junk, .junk, .junk, .junk, .junk, .junk, .junk, .junk, .junk, .junk, .junk, .junk, .junk, .junk, .junk, .junk, .junk, .junk, .junk, .junk, .junk, .junk, .junk, .junk, .junk, .junk, .junk], [.arr 0 2 [[.ro 1 (funs.map funC), .ro 5 (cos.map coV)]]]⟩ : { i : Nat // i ≤ funs.length } → St)) (fun i => funs.length - i.1) (⟨0, by simp⟩) ?_ ?_
        · skip
          refine Sub.cutE 1 [false, false, true, false, false, true, false, false, false, false, false, false, true, true, false, false, false, false, false, false, false, false, false, false, false, false, false, false, false, false, false, false, false, false, false, false, false, false, false, false, false, false, false, false, false, false, false, false, false, false, false, false, false, false, false, false, false, false, false, false, false, false, false, false, false, false, false, false, false, false, false, false, false, false, false, false, false, false, false, false, false, false, false, false, false, false, false, false, false, false, false, false, false, false, false, false, false, false, false, false, false, false, false, false, false, false, false, false, false, false, false, false, false, false, false, false, false, false, false, false, false, false, false, false, false, false, false, false, false, false, false, false, false, false, false, false, false, false, false, false, false, false, false, false, false, false, false, false, false, false, false] (by simp) ?_ ?_ <;> simp [List.range_succ, toIdx_range, passed, keepT, *]
        · skip
          rintro ⟨i, hi⟩
          simp only
          refine EV.seq ?_
          refine EV.seq ?_
          refine EV.regionG tabOK ?_ -- region 26
          simp -implicitDefEqProofs
          refine EV.condT ?_
          simp -implicitDefEqProofs
          refine condT_intro (fun h3 => ?_) (fun h3 => ?_)
          · try simp at h3
            refine EV.skip ?_
            simp only [thenK_normal, blockK_normal, scopeK_normal]
            refine EV.seq ?_
            refine EV.block ?_
            refine EV.seq ?_
            have hiF : i < funs.length := by first | assumption | omega
            have hiK : i < (kindsL funs.length cos).length := by rw [kindsL_len]; exact hiF
            have hof := over_f e1 (List.getElem_mem hiF)
            refine EV.regionG tabOK ?_ -- region 28
            simp -implicitDefEqProofs [hiF, hiK, kindsL_len]
            refine EV.seq ?_
            refine EV.seq ?_
            refine EV.regionG tabOK ?_ -- region 29
            simp -implicitDefEqProofs
            refine EV.block ?_
            refine EV.loopB ((fun k => ⟨[.junk, .junk, .ptr 0 0 0 0, .junk, .junk, .b true, .junk, .junk, .junk, .junk, .junk, .junk, .ro 1 ((kindsL funs.length cos).map fun z => [n z]), n i, .b (callsB funs cos i k.1), n k.1, .junk, .junk, .junk, .junk, .junk, .junk, .junk, .junk, .junk, .junk, .junk, .junk, .junk, .junk, .junk, .junk, .junk, .junk, .junk, .junk, .junk, .junk, .junk, .junk, .junk, .junk, .junk, .junk, .junk, .junk, .junk, .junk, .junk, .junk, .junk, .junk, .junk, .junk, .junk, .junk, .junk, .junk, .junk, .junk, .junk, .junk, .junk, .junk, .junk, .junk, .junk, .junk, .junk, .junk, .junk, .junk, .junk, .junk, .junk, .junk, .junk, .junk, .junk, .junk, .junk, .junk, .junk, .junk, .junk, .junk, .junk, .junk, .junk, .junk, .junk, .junk, .junk, .junk, .junk, .junk, .junk, .junk, .junk, .junk, .junk, .junk, .junk, .junk, .junk, .junk, .junk, .junk, .junk, .junk, .junk, .junk, .junk, .junk, .junk, .junk, .junk, .junk, .junk, .junk, .junk, .junk, .junk, .junk, .junk, .junk, .junk, .junk, .junk, .junk, .junk, .junk, .junk, .junk, .junk, .junk, .junk, .junk, .junk, .junk, .junk, .junk, .junk, .junk, .junk, .junk, .junk, .junk, .junk, .junk, .junk], [.arr 0 2 [[.ro 1 (funs.map funC), .ro 5 (cos.map coV)]]]⟩ : { k : Nat // k ≤ funs[i].length } → St)) (fun k => funs[i].length - k.1) (⟨0, by simp⟩) ?_ ?_
            · skip
              refine Sub.cutE 1 [false, false, true, false, false, true, false, false, false, false, false, false, true, true, true, true, false, false, false, false, false, false, false, false, false, false, false, false, false, false, false, false, false, false, false, false, false, false, false, false, false, false, false, false, false, false, false, false, false, false, false, false, false, false, false, false, false, false, false, false, false, false, false, false, false, false, false, false, false, false, false, false, false, false, false, false, false, false, false, false, false, false, false, false, false, false, false, false, false, false, false, false, false, false, false, false, false, false, false, false, false, false, false, false, false, false, false, false, false, false, false, false, false, false, false, false, false, false, false, false, false, false, false, false, false, false, false, false, false, false, false, false, false, false, false, false, false, false, false, false, false, false, false, false, false, false, false, false, false, false, false] (by simp) ?_ ?_ <;> simp [List.range_succ, toIdx_range, passed, keepT, callsB, *]
            · skip
              rintro ⟨k, hk⟩
              simp only
              refine EV.seq ?_
              refine EV.seq ?_
              refine EV.regionG tabOK ?_ -- region 30
              simp -implicitDefEqProofs [hiF, funC]
              refine EV.condT ?_
              simp -implicitDefEqProofs
              refine condT_intro (fun h4 => ?_) (fun h4 => ?_)
              · try simp at h4
                refine EV.skip ?_
                simp only [thenK_normal, blockK_normal, scopeK_normal]
                refine EV.seq ?_
                refine EV.block ?_
                refine EV.seq ?_
                have hkF : k < funs[i].length := by first | assumption | omega
                refine EV.regionG tabOK ?_ -- region 32
                simp -implicitDefEqProofs [hiF, hkF, funC, insC]
                rcases calls3 (callsB funs cos i k) funs[i][k].op with hcb | ⟨hcb, h26⟩ | ⟨hcb, h26, h22⟩ | ⟨hcb, h26, h22⟩
                · skip
                  refine EV.regionG tabOK ?_ -- region 33
                  simp (maxSteps := 4000000) -implicitDefEqProofs +contextual [hcb]
                  refine EV.regionG tabOK ?_ -- region 31
                  simp -implicitDefEqProofs
                  have hw : IntKind.i64.wrap ((k : Int) + 1) = (k : Int) + 1 := wrap_in _ (by omega) (by omega)
                  have hcn := callsB_next (cos := cos) hiF hkF
                  refine ⟨⟨k + 1, by omega⟩, by simp; omega, ?_⟩
                  refine Sub.cutE 1 [false, false, true, false, false, true, false, false, false, false, false, false, true, true, true, true, false, false, false, false, false, false, false, false, false, false, false, false, false, false, false, false, false, false, false, false, false, false, false, false, false, false, false, false, false, false, false, false, false, false, false, false, false, false, false, false, false, false, false, false, false, false, false, false, false, false, false, false, false, false, false, false, false, false, false, false, false, false, false, false, false, false, false, false, false, false, false, false, false, false, false, false, false, false, false, false, false, false, false, false, false, false, false, false, false, false, false, false, false, false, false, false, false, false, false, false, false, false, false, false, false, false, false, false, false, false, false, false, false, false, false, false, false, false, false, false, false, false, false, false, false, false, false, false, false, false, false, false, false, false, false] (by simp) ?_ ?_ <;> simp [List.range_succ, toIdx_range, passed, keepT, hw, hcn, hcb, *]
                · skip
                  refine EV.regionG tabOK ?_ -- region 33
                  simp (maxSteps := 4000000) -implicitDefEqProofs +contextual [hcb, h26]
                  refine EV.regionG tabOK ?_ -- region 31
                  simp -implicitDefEqProofs
                  have hw : IntKind.i64.wrap ((k : Int) + 1) = (k : Int) + 1 := wrap_in _ (by omega) (by omega)
                  have hcn := callsB_next (cos := cos) hiF hkF
                  refine ⟨⟨k + 1, by omega⟩, by simp; omega, ?_⟩
                  refine Sub.cutE 1 [false, false, true, false, false, true, false, false, false, false, false, false, true, true, true, true, false, false, false, false, false, false, false, false, false, false, false, false, false, false, false, false, false, false, false, false, false, false, false, false, false, false, false, false, false, false, false, false, false, false, false, false, false, false, false, false, false, false, false, false, false, false, false, false, false, false, false, false, false, false, false, false, false, false, false, false, false, false, false, false, false, false, false, false, false, false, false, false, false, false, false, false, false, false, false, false, false, false, false, false, false, false, false, false, false, false, false, false, false, false, false, false, false, false, false, false, false, false, false, false, false, false, false, false, false, false, false, false, false, false, false, false, false, false, false, false, false, false, false, false, false, false, false, false, false, false, false, false, false, false, false] (by simp) ?_ ?_ <;> simp [List.range_succ, toIdx_range, passed, keepT, hw, hcn, hcb, *]
                · skip
                  refine EV.regionG tabOK ?_ -- region 33
                  simp (maxSteps := 4000000) -implicitDefEqProofs +contextual [hcb, h26, h22]
                  refine EV.regionG tabOK ?_ -- region 31
                  simp -implicitDefEqProofs
                  have hw : IntKind.i64.wrap ((k : Int) + 1) = (k : Int) + 1 := wrap_in _ (by omega) (by omega)
                  have hcn := callsB_next (cos := cos) hiF hkF
                  refine ⟨⟨k + 1, by omega⟩, by simp; omega, ?_⟩
                  refine Sub.cutE 1 [false, false, true, false, false, true, false, false, false, false, false, false, true, true, true, true, false, false, false, false, false, false, false, false, false, false, false, false, false, false, false, false, false, false, false, false, false, false, false, false, false, false, false, false, false, false, false, false, false, false, false, false, false, false, false, false, false, false, false, false, false, false, false, false, false, false, false, false, false, false, false, false, false, false, false, false, false, false, false, false, false, false, false, false, false, false, false, false, false, false, false, false, false, false, false, false, false, false, false, false, false, false, false, false, false, false, false, false, false, false, false, false, false, false, false, false, false, false, false, false, false, false, false, false, false, false, false, false, false, false, false, false, false, false, false, false, false, false, false, false, false, false, false, false, false, false, false, false, false, false, false] (by simp) ?_ ?_ <;> simp [List.range_succ, toIdx_range, passed, keepT, hw, hcn, hcb, *]
                · skip
                  refine EV.regionG tabOK ?_ -- region 33
                  simp (maxSteps := 4000000) -implicitDefEqProofs +contextual [hcb, h26, h22]
                  refine EV.regionG tabOK ?_ -- region 31
                  simp -implicitDefEqProofs
                  have hw : IntKind.i64.wrap ((k : Int) + 1) = (k : Int) + 1 := wrap_in _ (by omega) (by omega)
                  have hcn := callsB_next (cos := cos) hiF hkF
                  refine ⟨⟨k + 1, by omega⟩, by simp; omega, ?_⟩
                  refine Sub.cutE 1 [false, false, true, false, false, true, false, false, false, false, false, false, true, true, true, true, false, false, false, false, false, false, false, false, false, false, false, false, false, false, false, false, false, false, false, false, false, false, false, false, false, false, false, false, false, false, false, false, false, false, false, false, false, false, false, false, false, false, false, false, false, false, false, false, false, false, false, false, false, false, false, false, false, false, false, false, false, false, false, false, false, false, false, false, false, false, false, false, false, false, false, false, false, false, false, false, false, false, false, false, false, false, false, false, false, false, false, false, false, false, false, false, false, false, false, false, false, false, false, false, false, false, false, false, false, false, false, false, false, false, false, false, false, false, false, false, false, false, false, false, false, false, false, false, false, false, false, false, false, false, false] (by simp) ?_ ?_ <;> simp [List.range_succ, toIdx_range, passed, keepT, hw, hcn, hcb, *]
              · try simp at h4
                refine EV.exit ?_
                simp -implicitDefEqProofs
                refine EV.seq ?_
                have hkl : k = funs[i].length := by omega
                cases hcb : callsB funs cos i k
                · skip
                  refine EV.regionG tabOK ?_ -- region 34
                  simp (maxSteps := 4000000) -implicitDefEqProofs +contextual [hcb, hiF, funC]
                  have hal := callsB_false hiF (by rw [← hcb]; congr 1; omega)
                  refine callG_lend [1] (r := .b true) (cs' := [.ro 1 ([funs[i]].map funC), .ro 5 (([] : List CoD).map coV)]) rfl (by have := walk21 [funs[i]] [] (fun f hf x hx => over_ll e1 funs[i] (List.getElem_mem hiF) x (by rwa [List.mem_singleton.1 hf] at hx)); rw [alone_valid e2 hiF hal.1 hal.2] at this; exact this) ?_ trivial ?_
                  · exact ⟨View.rows (by decide) rfl rfl (by simp [funC]) ⟨⟨.pu trivial, trivial⟩, trivial⟩, .nil 5, trivial⟩
                  try simp -implicitDefEqProofs
                  refine EV.condT ?_
                  simp -implicitDefEqProofs
                  refine EV.skip ?_
                  simp only [thenK_normal, blockK_normal, scopeK_normal]
                  refine EV.regionG tabOK ?_ -- region 27
                  simp -implicitDefEqProofs
                  have hw : IntKind.i64.wrap ((i : Int) + 1) = (i : Int) + 1 := wrap_in _ (by omega) (by omega)
                  refine ⟨⟨i + 1, by omega⟩, by simp; omega, ?_⟩
                  refine Sub.cutE 1 [false, false, true, false, false, true, false, false, false, false, false, false, true, true, false, false, false, false, false, false, false, false, false, false, false, false, false, false, false, false, false, false, false, false, false, false, false, false, false, false, false, false, false, false, false, false, false, false, false, false, false, false, false, false, false, false, false, false, false, false, false, false, false, false, false, false, false, false, false, false, false, false, false, false, false, false, false, false, false, false, false, false, false, false, false, false, false, false, false, false, false, false, false, false, false, false, false, false, false, false, false, false, false, false, false, false, false, false, false, false, false, false, false, false, false, false, false, false, false, false, false, false, false, false, false, false, false, false, false, false, false, false, false, false, false, false, false, false, false, false, false, false, false, false, false, false, false, false, false, false, false] (by simp) ?_ ?_ <;> simp [List.range_succ, toIdx_range, passed, keepT, hw]
                · skip
                  refine EV.regionG tabOK ?_ -- region 34
                  simp (maxSteps := 4000000) -implicitDefEqProofs +contextual [hcb, hiF, funC]
                  refine EV.condT ?_
                  simp -implicitDefEqProofs
                  refine EV.skip ?_
                  simp only [thenK_normal, blockK_normal, scopeK_normal]
                  refine EV.regionG tabOK ?_ -- region 27
                  simp -implicitDefEqProofs
                  have hw : IntKind.i64.wrap ((i : Int) + 1) = (i : Int) + 1 := wrap_in _ (by omega) (by omega)
                  refine ⟨⟨i + 1, by omega⟩, by simp; omega, ?_⟩
                  refine Sub.cutE 1 [false, false, true, false, false, true, false, false, false, false, false, false, true, true, false, false, false, false, false, false, false, false, false, false, false, false, false, false, false, false, false, false, false, false, false, false, false, false, false, false, false, false, false, false, false, false, false, false, false, false, false, false, false, false, false, false, false, false, false, false, false, false, false, false, false, false, false, false, false, false, false, false, false, false, false, false, false, false, false, false, false, false, false, false, false, false, false, false, false, false, false, false, false, false, false, false, false, false, false, false, false, false, false, false, false, false, false, false, false, false, false, false, false, false, false, false, false, false, false, false, false, false, false, false, false, false, false, false, false, false, false, false, false, false, false, false, false, false, false, false, false, false, false, false, false, false, false, false, false, false, false] (by simp) ?_ ?_ <;> simp [List.range_succ, toIdx_range, passed, keepT, hw]
          · try simp at h3
            refine EV.exit ?_
            simp -implicitDefEqProofs
            refine EV.seq ?_
            refine EV.regionG tabOK ?_ -- region 36
            simp -implicitDefEqProofs
            refine EV.ret ?_
            simp only [thenK_ret, blockK_ret, scopeK_ret, bodyK_ret]
            refine Fin.pure0 ?_
            simp [*]

end Go.Proofs.Tryd
end
section
namespace Go.Proofs.YtaklafpfbhaoaaaDoor
open Go.ChangeShapes Go.WideShapes Go.ChangeAt Go.RowKit Go.AM Go.Proofs.Tryd

set_option maxRecDepth 100000 in
theorem codeMoreLifted (HQ : ∀ (xs0 : List V) (z1 : Int), shp tab 6 35 xs0 → QC Tryd.prog 6 [.agg xs0, .i .i64 z1] [] (.b true) []) (os : Os) (started : os.Started) (H : Type) (enc : TypeId × Value → H) :
    ReturnsInHanded {} Tryd.checked os 6 .any (fun w args => (Rows.codeMoreSpec.pre enc Tryd.prog Tryd.f6 Rows.codeMoreRow.domain false w args ∧ laidMetH Tryd.prog Rows.codeMoreRow.laid w) ∧ sizedMet enc Tryd.prog Tryd.f6 (OpenSpec.ofChange Rows.codeMoreSpec) false w args)
      (Rows.codeMoreSpec.post enc Tryd.prog Tryd.f6 false true false false) := by
  refine returnsInHanded_of_change_and (C := Tryd.checked) (X := fun w _ => laidMetH Tryd.prog Rows.codeMoreRow.laid w) (fun _ _ _ hh h => h.of_heap hh) ownKnobNone started (by kernel_rfl) Tryd.func6
    (ChangeSpec.witness_shaped (enc := enc) (C := Tryd.checked) (os := os) (X := fun w _ => laidMetH Tryd.prog Rows.codeMoreRow.laid w) false (World.laidAll Tryd.prog os Rows.codeMoreRow.laid) #[.agg #[.slice none 0 0, .slice none 0 0], .int .i64 0] 8 (World.laidAll_os _ _ _)
      (World.shaped_of_ZipB (by kernel_rfl) (by kernel_rfl)) (by kernel_rfl) (by kernel_rfl) (by kernel_rfl)
      (by rw [MakeChecks.laidMetH_plain _ _ _ (by kernel_rfl)]; exact laidMet_laidAll _ (by kernel_rfl) (by kernel_rfl))) ?_
  intro W base args ds gs before hval0 hW _ _ _ _
  have hval : ∀ (j : Nat) t v, Tryd.f6.params[j]? = some t → args[j]? = some v → Value.okWide Tryd.prog W .any base t v := hval0
  have hW' := hW
  obtain ⟨p, q, hA0, hV, rfl, _, _⟩ := hW
  have hA : DataW.TrodAll enc Tryd.prog W 0 (fun _ => true) true Tryd.f6.params.toList args.toList ds p := hA0
  rw [Tryd.params6] at hA hval
  obtain ⟨v0, v1, d0, d1, p0, p1, rfl, rfl, rfl, h0, h1⟩ := trodAll_two hA
  obtain ⟨rfl, rfl⟩ := trodVars_none hV
  obtain ⟨z1, rfl, rfl, rfl, wf1⟩ := open_int (show Tryd.prog.underlying 3 = some (.int .i64) from Tryd.underlying3) (hval 1 3 v1 rfl rfl) h1
  simp only [List.append_nil] at hW'
  have hlt : ∀ x ∈ p0, x.block < W.heap.size := fun x hx => by simpa using hW'.lt x hx
  obtain ⟨xs0, hs0, hr0⟩ := arg_struct tabOK (T := tab) (n := 6) (t := 35) rfl (by decide +kernel) (hval 0 35 v0 rfl rfl) h0
  refine ((HQ xs0 z1 hs0).truth (vs := #[v0, .int .i64 z1]) (W := W) rfl (fun ok hok D j x u hx hu => ?_)).mono fun e W' ⟨he, hb⟩ => ?_
  · match j with
    | 0 =>
      simp only [List.getElem?_cons_succ, List.getElem?_cons_zero, Option.some.injEq] at hx
      subst hx
      obtain rfl : v0 = u := by simpa using hu
      exact hr0 ok hok D
    | 1 =>
      simp only [List.getElem?_cons_succ, List.getElem?_cons_zero, Option.some.injEq] at hx
      subst hx
      obtain rfl : Value.int .i64 z1 = u := by simpa using hu
      exact .pure (.i _ _)
    | j + 2 => simp at hx
  · subst he
    refine ⟨_, rfl, _, _, _, [], p0, [], hW', ?_, ?_, ?_, hb.frame _, fun h => by cases h⟩
    · exact trodAll_mk1 (shut_bool Tryd.underlying4 true)
    · have hpl : p0 ++ (([] : List MemPlace)) = p0 := by simp
      rw [← hpl]
      exact trodAll_mk2 (Below.trod laidOutAll (by kernel_rfl) (of_decide_eq_true (by kernel_rfl)) h0 hb hlt) (Below.trod laidOutAll (by kernel_rfl) (of_decide_eq_true (by kernel_rfl)) h1 hb (fun x hx => by cases hx))
    · rfl

theorem codeMoreHolds (HQ : ∀ (xs0 : List V) (z1 : Int), shp tab 6 35 xs0 → QC Tryd.prog 6 [.agg xs0, .i .i64 z1] [] (.b true) []) : Rows.CodeMoreSaid :=
  OpenClaim.holds_of_wide 6 Tryd.f6 rfl rfl rfl rfl rfl rfl rfl ⟨rfl, rfl, rfl, rfl, rfl⟩ rfl rfl rfl rfl rfl (by kernel_rfl) Tryd.func6 (by kernel_rfl)
    (of_decide_eq_true (by kernel_rfl)) (by unfold Func.isWrapper; rw [if_neg (by decide +kernel)]; exact ⟨rfl, rfl⟩)
    (fun os started H enc _ => codeMoreLifted HQ os started H enc)

theorem codeMoreCard (HQ : ∀ (xs0 : List V) (z1 : Int), shp tab 6 35 xs0 → QC Tryd.prog 6 [.agg xs0, .i .i64 z1] [] (.b true) []) : Rows.CodeMoreCardSaid :=
  Claim7.holds_tied_plain_at .later [] [.data, .data, .data] true (true, "e0d625a2e69adf01b107668993ea5ba20a030b330d5d389efb3f1299f4f792e2") false (codeMoreHolds HQ) (fun _ h => by cases h) (by kernel_rfl) (fun _ h => by cases h) codeMore_row_tie rfl ⟨rfl, rfl⟩ (by kernel_rfl) rfl
    (fun f fn hf hfn => by
      obtain rfl : f = 6 := Option.some.inj ((show Tryd.prog.funcNamed "cocoon/cocoonlaw02.CodeMore" = some 6 by kernel_rfl).symm.trans hf) |>.symm
      obtain rfl : fn = Tryd.f6 := (Option.some.inj (Tryd.func6.symm.trans hfn)).symm
      exact ⟨by kernel_rfl, fun j t ht => by
        rw [Tryd.params6] at ht
        have hm : t ∈ [35, 3] := by simpa using Array.mem_of_getElem? ht
        have hall : ([35, 3].all fun u => !Tryd.prog.wantsStandIn u) = true := by kernel_rfl
        exact (show Tryd.prog.wantsStandIn t = false by simpa using List.all_eq_true.1 hall t hm)⟩)
    (by kernel_rfl)

theorem codeMore_card : Rows.CodeMoreCardSaid := codeMoreCard fun xs0 z1 hs0 => by
  obtain ⟨funs, cos, rfl⟩ := shp_prog (k := 0) hs0
  exact walk6 funs cos z1
end Go.Proofs.YtaklafpfbhaoaaaDoor
end
