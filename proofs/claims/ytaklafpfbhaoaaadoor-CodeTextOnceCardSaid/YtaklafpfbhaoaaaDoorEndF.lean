/- Two programs with the same text may both be run, or both not, but for what coroutines are called: CodeTextOnce, tied. No conditions. -/
import Derived.Test.YtaklafpfbhaoaaaDoorEndE
set_option linter.unusedVariables false
set_option linter.unusedSimpArgs false
set_option linter.constructorNameAsVariable false
section
namespace Go.Proofs.Tryd
open Go Go.AM

/-- Pieces, each with a sign behind it that none of them holds, are told apart. -/
theorem sep_inj (s : UInt8) : ∀ (xs ys : List (List UInt8)), (∀ x ∈ xs, s ∉ x) → (∀ y ∈ ys, s ∉ y) → (xs.map (· ++ [s])).flatten = (ys.map (· ++ [s])).flatten → xs = ys
  | [], [], _, _, _ => rfl
  | [], y :: ys, _, _, h => by simp at h
  | x :: xs, [], _, _, h => by simp at h
  | x :: xs, y :: ys, hx, hy, h => by
    simp only [List.map_cons, List.flatten_cons, List.append_assoc] at h
    have key : ∀ (a b r t : List UInt8), s ∉ a → s ∉ b → a ++ ([s] ++ r) = b ++ ([s] ++ t) → a = b ∧ r = t := by
      intro a
      induction a with
      | nil =>
        intro b r t ha hb he
        cases b with
        | nil => exact ⟨rfl, by simpa using he⟩
        | cons c b =>
          simp only [List.nil_append, List.cons_append, List.cons.injEq] at he
          exact absurd (he.1 ▸ List.mem_cons_self) hb
      | cons c a ih =>
        intro b r t ha hb he
        cases b with
        | nil =>
          simp only [List.nil_append, List.cons_append, List.cons.injEq] at he
          exact absurd (he.1 ▸ List.mem_cons_self) ha
        | cons d b =>
          simp only [List.cons_append, List.cons.injEq] at he
          obtain ⟨rfl, he⟩ := he
          obtain ⟨rfl, rfl⟩ := ih b r t (fun h => ha (List.mem_cons_of_mem _ h)) (fun h => hb (List.mem_cons_of_mem _ h)) he
          exact ⟨rfl, rfl⟩
    obtain ⟨rfl, h2⟩ := key x y _ _ (hx x List.mem_cons_self) (hy y List.mem_cons_self) h
    rw [sep_inj s xs ys (fun z hz => hx z (List.mem_cons_of_mem _ hz)) (fun z hz => hy z (List.mem_cons_of_mem _ hz)) h2]

/-! numerals -/
def isD (c : UInt8) : Prop := 48 ≤ c.toNat ∧ c.toNat ≤ 57
theorem digit_nat {k : Nat} (h : k < 10) : (UInt8.ofNat (48 + k)).toNat = 48 + k := by
  rw [UInt8.toNat_ofNat']; omega
theorem dec_digits (u : Nat) : ∀ c ∈ Lib.decDigits u, isD c := by
  induction u using Nat.strongRecOn with
  | _ u ih =>
    intro c hc
    by_cases h : u < 10
    · rw [Lib.decDigits_one h, List.mem_singleton] at hc
      subst hc
      unfold isD; rw [digit_nat h]; omega
    · rw [dd_step (by omega), List.mem_append, List.mem_singleton] at hc
      rcases hc with hc | hc
      · exact ih (u / 10) (by omega) c hc
      · subst hc
        unfold isD; rw [digit_nat (by omega)]; omega
def valD (l : List UInt8) : Nat := l.foldl (fun a c => a * 10 + (c.toNat - 48)) 0
theorem valD_dec (u : Nat) : valD (Lib.decDigits u) = u := by
  induction u using Nat.strongRecOn with
  | _ u ih =>
    by_cases h : u < 10
    · rw [Lib.decDigits_one h]
      simp only [valD, List.foldl_cons, List.foldl_nil]
      rw [digit_nat h]; omega
    · rw [dd_step (by omega)]
      unfold valD at ih ⊢
      rw [List.foldl_append, ih (u / 10) (by omega)]
      simp only [List.foldl_cons, List.foldl_nil]
      rw [digit_nat (by omega)]; omega
theorem dec_ne (u : Nat) : Lib.decDigits u ≠ [] := by
  intro h
  have := Lib.decDigits_length u
  have h2 := Lib.nDigits_pos u
  rw [h] at this
  simp at this
  omega
theorem itoa_chars (z : Int) : ∀ c ∈ Lib.itoa z, c = 45 ∨ isD c := by
  intro c hc
  unfold Lib.itoa at hc
  split at hc
  · rcases List.mem_cons.1 hc with h | h
    · exact .inl h
    · exact .inr (dec_digits _ c h)
  · exact .inr (dec_digits _ c hc)
theorem not_isD45 : ¬ isD 45 := by unfold isD; decide
theorem itoa_inj {a b : Int} (h : Lib.itoa a = Lib.itoa b) : a = b := by
  have hd : ∀ (u v : Nat), 45 :: Lib.decDigits u ≠ Lib.decDigits v := fun u v he => not_isD45 (dec_digits v 45 (he ▸ List.mem_cons_self))
  have hv : ∀ (u v : Nat), Lib.decDigits u = Lib.decDigits v → u = v := fun u v he => by rw [← valD_dec u, he, valD_dec]
  unfold Lib.itoa at h
  split at h <;> split at h
  · have := hv _ _ (List.cons.inj h).2; omega
  · exact absurd h (hd _ _)
  · exact absurd h.symm (hd _ _)
  · have := hv _ _ h; omega
theorem dig_inj {a b : Int} (ha : inI64 a) (hb : inI64 b) (h : dig a = dig b) : a = b := by
  rw [dig_eq ha, dig_eq hb] at h; exact itoa_inj h
theorem dig_chars (z : Int) : ∀ c ∈ dig z, c = 45 ∨ isD c := by
  unfold dig; split
  · exact itoa_chars z
  · intro c hc; cases hc
theorem dig_ne {z : Int} (h : inI64 z) : dig z ≠ [] := by
  rw [dig_eq h]; unfold Lib.itoa; split
  · simp
  · exact dec_ne _
theorem dig_no (z : Int) {s : UInt8} (h45 : s ≠ 45) (hs : ¬ isD s) : s ∉ dig z := fun h => by
  rcases dig_chars z s h with h | h
  · exact h45 h
  · exact hs h

/-! rows of numbers -/
theorem joinS_sep : ∀ (l : List (List UInt8)), l ≠ [] → joinS l ++ [32] = (l.map (· ++ [32])).flatten
  | x :: ys, _ => by
    have h : ∀ (ys : List (List UInt8)), (ys.map fun y => 32 :: y).flatten ++ [32] = 32 :: (ys.map (· ++ [32])).flatten := by
      intro ys
      induction ys with
      | nil => rfl
      | cons y ys ih => simp [ih]
    simp [joinS, h]
theorem joinD_inj {l m : List Int} (hl : ∀ z ∈ l, inI64 z) (hm : ∀ z ∈ m, inI64 z) (h0 : l ≠ []) (h1 : m ≠ []) (h : joinS (l.map dig) = joinS (m.map dig)) : l = m := by
  have h2 : ((l.map dig).map (· ++ [32])).flatten = ((m.map dig).map (· ++ [32])).flatten := by
    rw [← joinS_sep _ (by simpa using h0), ← joinS_sep _ (by simpa using h1), h]
  have h3 := sep_inj 32 _ _ (by simp only [List.mem_map]; rintro x ⟨z, _, rfl⟩; exact dig_no z (by decide) (by unfold isD; decide)) (by simp only [List.mem_map]; rintro x ⟨z, _, rfl⟩; exact dig_no z (by decide) (by unfold isD; decide)) h2
  clear h h2 h0 h1
  induction l generalizing m with
  | nil => cases m with
    | nil => rfl
    | cons => simp at h3
  | cons a l ih => cases m with
    | nil => simp at h3
    | cons b m =>
      simp only [List.map_cons, List.cons.injEq] at h3
      rw [dig_inj (hl a List.mem_cons_self) (hm b List.mem_cons_self) h3.1, ih (fun z hz => hl z (List.mem_cons_of_mem _ hz)) (fun z hz => hm z (List.mem_cons_of_mem _ hz)) h3.2]

/-! lines -/
noncomputable def coLn (c : CoD) : List UInt8 := 99 :: 111 :: 32 :: joinS ([c.res, c.can, c.words, c.args].map dig)
noncomputable def insLn (x : InsD) : List UInt8 := joinS ((rowI x).map dig)
def funLn : List UInt8 := [102, 117, 110]
noncomputable def lnsF (fs : List (List InsD)) : List (List UInt8) := (fs.map fun f => funLn :: f.map insLn).flatten
noncomputable def lns (p : ProgD) : List (List UInt8) := p.cos.map coLn ++ lnsF p.funs
theorem lns_text (p : ProgD) : progT dig p.funs p.cos = ((lns p).map (· ++ [10])).flatten := by
  have h1 : ∀ cs : List CoD, cosT dig cs = ((cs.map coLn).map (· ++ [10])).flatten := by
    intro cs
    have h : coT dig = fun c => coLn c ++ [10] := by funext c; simp [coT, coLn]
    simp [cosT, h, Function.comp_def]
  have h2 : ∀ f : List InsD, insT dig f = ((f.map insLn).map (· ++ [10])).flatten := by
    intro f
    have h : insT1 dig = fun x => insLn x ++ [10] := by funext x; simp [insT1, insLn]
    simp [insT, h, Function.comp_def]
  have h3 : ∀ fs : List (List InsD), funsT dig fs = ((lnsF fs).map (· ++ [10])).flatten := by
    intro fs
    induction fs with
    | nil => rfl
    | cons f fs ih =>
      have h4 : funsT dig (f :: fs) = funT dig f ++ funsT dig fs := by simp [funsT]
      have h5 : lnsF (f :: fs) = funLn :: f.map insLn ++ lnsF fs := by simp [lnsF]
      rw [h4, h5, ih, funT, h2]
      simp [funLn]
  rw [progT, h1, h3, lns, List.map_append, List.flatten_append]
theorem joinS_mem {s : UInt8} : ∀ {l : List (List UInt8)}, s ∈ joinS l → s = 32 ∨ ∃ x ∈ l, s ∈ x
  | [], h => by simp [joinS] at h
  | x :: ys, h => by
    simp only [joinS, List.mem_append, List.mem_flatten, List.mem_map] at h
    rcases h with h | ⟨_, ⟨y, hy, rfl⟩, h⟩
    · exact .inr ⟨x, List.mem_cons_self, h⟩
    · rcases List.mem_cons.1 h with h | h
      · exact .inl h
      · exact .inr ⟨y, List.mem_cons_of_mem _ hy, h⟩
theorem row_no10 (l : List Int) : (10 : UInt8) ∉ joinS (l.map dig) := by
  intro h
  rcases joinS_mem h with h | ⟨x, hx, h⟩
  · exact absurd h (by decide)
  · obtain ⟨z, _, rfl⟩ := List.mem_map.1 hx
    exact dig_no z (by decide) (by unfold isD; decide) h
theorem ln_no10 (p : ProgD) : ∀ x ∈ lns p, (10 : UInt8) ∉ x := by
  intro x hx
  rcases List.mem_append.1 hx with hx | hx
  · obtain ⟨c, _, rfl⟩ := List.mem_map.1 hx
    intro h
    simp only [coLn, List.mem_cons] at h
    rcases h with h | h | h | h
    · exact absurd h (by decide)
    · exact absurd h (by decide)
    · exact absurd h (by decide)
    · exact row_no10 _ h
  · obtain ⟨y, hy, hx⟩ := List.mem_flatten.1 hx
    obtain ⟨f, _, rfl⟩ := List.mem_map.1 hy
    rcases List.mem_cons.1 hx with rfl | hx
    · unfold funLn; decide
    · obtain ⟨i, _, rfl⟩ := List.mem_map.1 hx
      exact row_no10 _
/-- A line of numbers begins with a digit or a '-'. -/
theorem ins_head (x : InsD) (h : inI64 x.op) : ∃ c r, insLn x = c :: r ∧ (c = 45 ∨ isD c) := by
  have h1 : insLn x = dig x.op ++ (([x.a, x.b, x.c] ++ x.l).map dig |>.map fun y => 32 :: y).flatten := by simp [insLn, rowI, joinS]
  cases hq : dig x.op with
  | nil => exact absurd hq (dig_ne h)
  | cons c r =>
    refine ⟨c, _, by rw [h1, hq]; rfl, dig_chars x.op c (by rw [hq]; exact List.mem_cons_self)⟩

def stripC (c : CoD) : CoD := { c with nm := [] }
theorem lnsF_head {fs : List (List InsD)} {x : List UInt8} {r : List (List UInt8)} (h : lnsF fs = x :: r) : x = funLn := by
  cases fs with
  | nil => simp [lnsF] at h
  | cons f fs => simp [lnsF] at h; exact h.1.symm
theorem co_lns : ∀ (us vs : List CoD) (fs gs : List (List InsD)), (∀ c ∈ us, RngC c) → (∀ c ∈ vs, RngC c) → us.map coLn ++ lnsF fs = vs.map coLn ++ lnsF gs → us.map stripC = vs.map stripC ∧ lnsF fs = lnsF gs
  | [], [], fs, gs, _, _, h => ⟨rfl, by simpa using h⟩
  | [], b :: vs, fs, gs, _, _, h => by
    have := lnsF_head (show lnsF fs = coLn b :: _ by simpa using h)
    simp [coLn, funLn] at this
  | a :: us, [], fs, gs, _, _, h => by
    have := lnsF_head (show lnsF gs = coLn a :: _ by simpa using h.symm)
    simp [coLn, funLn] at this
  | a :: us, b :: vs, fs, gs, ha, hb, h => by
    simp only [List.map_cons, List.cons_append, List.cons.injEq] at h
    obtain ⟨h1, h2⟩ := h
    obtain ⟨h3, h4⟩ := co_lns us vs fs gs (fun c hc => ha c (List.mem_cons_of_mem _ hc)) (fun c hc => hb c (List.mem_cons_of_mem _ hc)) h2
    obtain ⟨a1, a2, a3, a4⟩ := ha a List.mem_cons_self
    obtain ⟨b1, b2, b3, b4⟩ := hb b List.mem_cons_self
    have h5 : [a.res, a.can, a.words, a.args] = [b.res, b.can, b.words, b.args] := by
      refine joinD_inj ?_ ?_ (by simp) (by simp) (by simpa [coLn] using h1)
      · intro z hz; simp at hz; rcases hz with rfl | rfl | rfl | rfl <;> assumption
      · intro z hz; simp at hz; rcases hz with rfl | rfl | rfl | rfl <;> assumption
    simp at h5
    refine ⟨?_, h4⟩
    rw [List.map_cons, List.map_cons, h3]
    simp [stripC, h5]
theorem ins_inj {x y : InsD} (hx : RngI x) (hy : RngI y) (h : insLn x = insLn y) : x = y := by
  obtain ⟨x1, x2, x3, x4, x5⟩ := hx
  obtain ⟨y1, y2, y3, y4, y5⟩ := hy
  have h5 : rowI x = rowI y := by
    refine joinD_inj ?_ ?_ (by simp [rowI]) (by simp [rowI]) h
    · intro z hz; simp [rowI] at hz; rcases hz with rfl | rfl | rfl | rfl | hz <;> first | assumption | exact x5 z hz
    · intro z hz; simp [rowI] at hz; rcases hz with rfl | rfl | rfl | rfl | hz <;> first | assumption | exact y5 z hz
  simp [rowI] at h5
  cases x; cases y
  simp_all
theorem ins_fun {x : InsD} (hx : RngI x) : insLn x ≠ funLn := by
  obtain ⟨c, r, h1, h2⟩ := ins_head x hx.1
  rw [h1]
  intro h
  simp only [funLn, List.cons.injEq] at h
  rw [h.1] at h2
  rcases h2 with h2 | h2
  · exact absurd h2 (by decide)
  · exact absurd h2 (by unfold isD; decide)
theorem fun_lns : ∀ (f g : List InsD) (fs gs : List (List InsD)), (∀ x ∈ f, RngI x) → (∀ x ∈ g, RngI x) → f.map insLn ++ lnsF fs = g.map insLn ++ lnsF gs → f = g ∧ lnsF fs = lnsF gs
  | [], [], fs, gs, _, _, h => ⟨rfl, by simpa using h⟩
  | [], y :: g, fs, gs, _, hg, h => absurd (lnsF_head (show lnsF fs = insLn y :: _ by simpa using h)) (ins_fun (hg y List.mem_cons_self))
  | x :: f, [], fs, gs, hf, _, h => absurd (lnsF_head (show lnsF gs = insLn x :: _ by simpa using h.symm)) (ins_fun (hf x List.mem_cons_self))
  | x :: f, y :: g, fs, gs, hf, hg, h => by
    simp only [List.map_cons, List.cons_append, List.cons.injEq] at h
    obtain ⟨h1, h2⟩ := h
    obtain ⟨h3, h4⟩ := fun_lns f g fs gs (fun c hc => hf c (List.mem_cons_of_mem _ hc)) (fun c hc => hg c (List.mem_cons_of_mem _ hc)) h2
    exact ⟨by rw [ins_inj (hf x List.mem_cons_self) (hg y List.mem_cons_self) h1, h3], h4⟩
theorem funs_lns : ∀ (fs gs : List (List InsD)), (∀ f ∈ fs, ∀ x ∈ f, RngI x) → (∀ f ∈ gs, ∀ x ∈ f, RngI x) → lnsF fs = lnsF gs → fs = gs
  | [], [], _, _, _ => rfl
  | [], g :: gs, _, _, h => by simp [lnsF] at h
  | f :: fs, [], _, _, h => by simp [lnsF] at h
  | f :: fs, g :: gs, hf, hg, h => by
    have h5 : ∀ (f : List InsD) (fs : List (List InsD)), lnsF (f :: fs) = funLn :: (f.map insLn ++ lnsF fs) := fun f fs => by simp [lnsF]
    rw [h5, h5, List.cons.injEq] at h
    obtain ⟨rfl, h2⟩ := fun_lns f g fs gs (hf f List.mem_cons_self) (hg g List.mem_cons_self) h.2
    rw [funs_lns fs gs (fun f h => hf f (List.mem_cons_of_mem _ h)) (fun f h => hg f (List.mem_cons_of_mem _ h)) h2]

theorem kinds_strip (k : Nat) (cos : List CoD) : kindsL k cos = kindsL k (cos.map stripC) := by
  simp [kindsL, kinds1, List.foldl_map, stripC]
theorem valid_strip (funs : List (List InsD)) (cos : List CoD) : validB funs cos = validB funs (cos.map stripC) := by
  have h : ∀ ks, cos.all (coroD ks) = (cos.map stripC).all (coroD ks) := by
    intro ks
    rw [List.all_map]
    rfl
  unfold validB
  rw [← kinds_strip, ← h, List.length_map]

theorem text_valid {p q : ProgD} (hp : RngP p) (hq : RngP q) (h : F24 p = F24 q) : validB p.funs p.cos = validB q.funs q.cos := by
  rw [F24_eq, F24_eq, lns_text, lns_text] at h
  have h1 := sep_inj 10 _ _ (ln_no10 p) (ln_no10 q) h
  obtain ⟨h2, h3⟩ := co_lns p.cos q.cos p.funs q.funs hp.co hq.co h1
  have h4 := funs_lns _ _ hp.fu hq.fu h3
  rw [valid_strip, valid_strip q.funs, h4, h2]
end Go.Proofs.Tryd
end
section
namespace Go.Proofs.Tryd
open Go Go.AM
attribute [local simp] wpG_op wpG_nil contG_some wpG_guard guardG_v guardG_o guardG_tup gval pureOp stepG_if isPick pickG_pick pickB_b pickOK isCall step_move step_assign step_alloc step_box boxV_some step_load step_store step_binOp step_unOp step_fieldAddr faV step_indexAddr ixA_slc ixA_arr step_extract extV_tup step_nilCheck ncV_ptr ncV_rp ncV_fn ncV_mp step_build buildV step_buildSlice bsV step_index ixV_arr ixV_str step_append apB step_makeSlice msV_i step_makeFunc over step_len step_makeMap mmV step_mapUpdate step_insert muA_map muB_mp step_lookup lkA_map lkB_mp step_slice slcV_s slcV_sl slcV_ro cutB_some slObV_arr bound_none bound_some bndV_i lenB_str lenB_ro lenB_sl lenB_nil lenB_z ld_ptr ld_rp offV_ptr offV_rp idxV_ro idxV_sl unV_not unV_neg binV_int binV_str binV_eqlb binV_neqb intOp strOp St.put updL setOb St.ev toV St.lk cellsOf AM.valOf TK.agg stv fillV places TI.zero condT_true condT_false finS resL resSlot packV ren ren1 ren0 Value.cells builtinV appendV elemsOf keepT room_of wrap_in toIdx Ob.ren passed Function.comp_def take_len_map lenV touchOf hid tab1 tab2 tab3 tab4 tab5 tab6 tab7 tab8 tab9 tab10 tab11 tab12 tab13 tab14 tab15 tab16 tab17 tab18 tab19 tab20 tab21 tab22 tab23 tab24 tab25 tab26 tab28 tab29 tab30 tab31 tab32 tab33 tab34 tab35 tab36 tab37 tab38 tab39 tab40 tab41 tab42 tab43 tab44 tab45 tab46 tab48 tab49 tab50 tab51 tab52 tab53 tab54 tab55 tab56 tab57 tab58 tab59 tab60 tab61 tab62 tab63 tab64 tab65 tab67 tab68 tab69 tab70 tab71 tab72 tab73 tab74 tab75 tab76 tab77 tab78 tab79 tab80 tab81 tab82 tab83 tab84 tab85 tab86 tab89 tab90 tab91 tab92 tab93 tab94 tab95 tab96 tab98 tab99 tab100 tab101 tab102 tab103 tab104 tab105 tab106 tab107 tab108 tab109 tab113 tab114 tab115 tab116 tab117 tab118 tab119 tab120 ren_arr ren_gone ren_unborn ren_var ren_row insC coV funC step_convert cvV_i cvV_sl cvV_s cvK_slc cvE_u8 bytesOf progC
set_option linter.unusedSimpArgs false
set_option maxRecDepth 10000
set_option maxHeartbeats 4000000

theorem w_21 (p : ProgD) (hs : SmallP p) : QC prog 21 [.agg [.ro 1 (p.funs.map funC), .ro 5 (p.cos.map coV)]] [] (.b (validB p.funs p.cos)) [] := walk21 p.funs p.cos fun f hf x hx => Nat.le_trans (hs.ll f hf x hx) (by decide)

noncomputable def L9 (p0 : ProgD) (p1 : ProgD) : Bool :=
  (if (((overB p0.funs p0.cos) = true) ∨ ((overB p1.funs p1.cos) = true)) ∨ (¬ ((F24 p0) = (F24 p1))) then true else ((validB p0.funs p0.cos) == (validB p1.funs p1.cos)))
set_option maxHeartbeats 4000000 in
theorem w_L9 (p0 : ProgD) (p1 : ProgD) (hr : RngP p0) (hq : RngP p1) : QC prog 9 [.agg [.ro 1 (p0.funs.map funC), .ro 5 (p0.cos.map coV)], .agg [.ro 1 (p1.funs.map funC), .ro 5 (p1.cos.map coV)]] [] (.b (L9 p0 p1)) [] := by
  refine QC.of_body tabOK func9 rfl (by kernel_rfl) ?_
  simp only [f9]
  generalize e : L9 p0 p1 = R
  unfold L9 at e
  refine EV.seq ?_
  refine EV.regionG tabOK ?_ -- region 0
  simp -implicitDefEqProofs
  refine EV.seq ?_
  refine EV.regionG tabOK ?_ -- region 1
  simp -implicitDefEqProofs
  refine callG_fun walk10 ?_ ?_
  · simp
  simp -implicitDefEqProofs
  refine EV.seq ?_
  refine EV.seq ?_
  refine EV.regionG tabOK ?_ -- region 2
  simp -implicitDefEqProofs
  refine EV.condT ?_
  simp -implicitDefEqProofs
  refine EV.skip ?_
  simp only [thenK_normal, blockK_normal, scopeK_normal]
  refine EV.seq ?_
  refine EV.regionG tabOK ?_ -- region 4
  simp -implicitDefEqProofs
  refine callG_fun (w_18 p0) ?_ ?_
  · simp
  simp -implicitDefEqProofs
  refine EV.seq ?_
  refine EV.regionG tabOK ?_ -- region 5
  simp -implicitDefEqProofs
  refine callG_fun (w_18 p1) ?_ ?_
  · simp
  simp -implicitDefEqProofs
  refine EV.seq ?_
  refine EV.seq ?_
  cases k1 : (overB p0.funs p0.cos)
  · skip
    cases k2 : (overB p1.funs p1.cos)
    · skip
      refine EV.drawG tabOK mixedOK ?_ -- region 6
      simp -implicitDefEqProofs +contextual [k1, k2]
      refine callG_fun (w_23 p0 (small_of (by first | assumption | grind)) (by assumption)) ?_ ?_
      · simp
      simp -implicitDefEqProofs +contextual [k1, k2]
      refine callG_fun (w_23 p1 (small_of (by first | assumption | grind)) (by assumption)) ?_ ?_
      · simp
      simp -implicitDefEqProofs +contextual [k1, k2]
      refine And.intro ?_ ?_
      · first | decide +kernel | (simp -implicitDefEqProofs; decide +kernel) | (split <;> decide +kernel)
      try simp -implicitDefEqProofs
      refine EV.condT ?_
      simp -implicitDefEqProofs [k1, k2]
      refine condT_intro (fun k3 => ?_) (fun k3 => ?_)
      · try simp at k3
        replace e := pos_on e (by first | simpa [k1, k2] using k3 | grind)
        refine EV.seq ?_
        refine EV.regionG tabOK ?_ -- region 7
        simp -implicitDefEqProofs [k1, k2]
        refine EV.ret ?_
        simp only [thenK_ret, blockK_ret, scopeK_ret, bodyK_ret]
        subst e
        refine Fin.pure0 ?_
        simp
      · try simp at k3
        replace e := neg_on e (by first | simpa [k1, k2] using k3 | grind)
        refine EV.skip ?_
        simp only [thenK_normal, blockK_normal, scopeK_normal]
        refine EV.seq ?_
        refine EV.drawG tabOK mixedOK ?_ -- region 8
        simp -implicitDefEqProofs +contextual [k1, k2]
        refine callG_fun (w_21 p0 (small_of (by first | assumption | grind))) ?_ ?_
        · simp
        simp -implicitDefEqProofs +contextual [k1, k2]
        refine callG_fun (w_21 p1 (small_of (by first | assumption | grind))) ?_ ?_
        · simp
        simp -implicitDefEqProofs +contextual [k1, k2]
        refine And.intro ?_ ?_
        · first | decide +kernel | (simp -implicitDefEqProofs; decide +kernel) | (split <;> decide +kernel)
        try simp -implicitDefEqProofs
        refine EV.ret ?_
        simp only [thenK_ret, blockK_ret, scopeK_ret, bodyK_ret]
        subst e
        refine Fin.pure0 ?_
        simp
    · skip
      refine EV.drawG tabOK mixedOK ?_ -- region 6
      simp -implicitDefEqProofs +contextual [k1, k2]
      refine And.intro ?_ ?_
      · first | decide +kernel | (simp -implicitDefEqProofs; decide +kernel) | (split <;> decide +kernel)
      try simp -implicitDefEqProofs
      refine EV.condT ?_
      simp -implicitDefEqProofs [k1, k2]
      replace e := pos_on e (by simp [k1, k2])
      refine EV.seq ?_
      refine EV.regionG tabOK ?_ -- region 7
      simp -implicitDefEqProofs [k1, k2]
      refine EV.ret ?_
      simp only [thenK_ret, blockK_ret, scopeK_ret, bodyK_ret]
      subst e
      refine Fin.pure0 ?_
      simp
  · skip
    refine EV.drawG tabOK mixedOK ?_ -- region 6
    simp -implicitDefEqProofs +contextual [k1]
    refine And.intro ?_ ?_
    · first | decide +kernel | (simp -implicitDefEqProofs; decide +kernel) | (split <;> decide +kernel)
    try simp -implicitDefEqProofs
    refine EV.condT ?_
    simp -implicitDefEqProofs [k1]
    replace e := pos_on e (by simp [k1])
    refine EV.seq ?_
    refine EV.regionG tabOK ?_ -- region 7
    simp -implicitDefEqProofs [k1]
    refine EV.ret ?_
    simp only [thenK_ret, blockK_ret, scopeK_ret, bodyK_ret]
    subst e
    refine Fin.pure0 ?_
    simp

theorem L9_true (p q : ProgD) (hp : RngP p) (hq : RngP q) : L9 p q = true := by
  unfold L9
  by_cases h : F24 p = F24 q
  · have := text_valid hp hq h
    simp [this]
  · simp [h]
end Go.Proofs.Tryd
end
section
namespace Go.Proofs.YtaklafpfbhaoaaaDoor
open Go.ChangeShapes Go.WideShapes Go.ChangeAt Go.RowKit Go.AM Go.Proofs.Tryd

set_option maxRecDepth 100000 in
theorem codeTextOnceLifted (HQ : ∀ (xs0 : List V) (xs1 : List V), shp tab 6 35 xs0 → shp tab 6 35 xs1 → QC Tryd.prog 9 [.agg xs0, .agg xs1] [] (.b true) []) (os : Os) (started : os.Started) (H : Type) (enc : TypeId × Value → H) :
    ReturnsInHanded {} Tryd.checked os 9 .any (fun w args => (Rows.codeTextOnceSpec.pre enc Tryd.prog Tryd.f9 Rows.codeTextOnceRow.domain false w args ∧ laidMetH Tryd.prog Rows.codeTextOnceRow.laid w) ∧ sizedMet enc Tryd.prog Tryd.f9 (OpenSpec.ofChange Rows.codeTextOnceSpec) false w args)
      (Rows.codeTextOnceSpec.post enc Tryd.prog Tryd.f9 false true false false) := by
  refine returnsInHanded_of_change_and (C := Tryd.checked) (X := fun w _ => laidMetH Tryd.prog Rows.codeTextOnceRow.laid w) (fun _ _ _ hh h => h.of_heap hh) ownKnobNone started (by kernel_rfl) Tryd.func9
    (ChangeSpec.witness_shaped (enc := enc) (C := Tryd.checked) (os := os) (X := fun w _ => laidMetH Tryd.prog Rows.codeTextOnceRow.laid w) false (World.laidAll Tryd.prog os Rows.codeTextOnceRow.laid) #[.agg #[.slice none 0 0, .slice none 0 0], .agg #[.slice none 0 0, .slice none 0 0]] 8 (World.laidAll_os _ _ _)
      (World.shaped_of_ZipB (by kernel_rfl) (by kernel_rfl)) (by kernel_rfl) (by kernel_rfl) (by kernel_rfl)
      (by rw [MakeChecks.laidMetH_plain _ _ _ (by kernel_rfl)]; exact laidMet_laidAll _ (by kernel_rfl) (by kernel_rfl))) ?_
  intro W base args ds gs before hval0 hW _ _ hL _
  have hval : ∀ (j : Nat) t v, Tryd.f9.params[j]? = some t → args[j]? = some v → Value.okWide Tryd.prog W .any base t v := hval0
  have hW' := hW
  obtain ⟨p, q, hA0, hV, rfl, _, _⟩ := hW
  have hA : DataW.TrodAll enc Tryd.prog W 0 (fun _ => true) true Tryd.f9.params.toList args.toList ds p := hA0
  rw [Tryd.params9] at hA hval
  obtain ⟨v0, v1, d0, d1, p0, p1, rfl, rfl, rfl, h0, h1⟩ := trodAll_two hA
  obtain ⟨rfl, rfl⟩ := trodVars_none hV
  simp only [List.append_nil] at hW'
  have hlt : ∀ x ∈ p0 ++ p1, x.block < W.heap.size := fun x hx => by simpa using hW'.lt x hx
  obtain ⟨xs0, hs0, hr0⟩ := arg_struct tabOK (T := tab) (n := 6) (t := 35) rfl (by decide +kernel) (hval 0 35 v0 rfl rfl) h0
  obtain ⟨xs1, hs1, hr1⟩ := arg_struct tabOK (T := tab) (n := 6) (t := 35) rfl (by decide +kernel) (hval 1 35 v1 rfl rfl) h1
  refine ((HQ xs0 xs1 hs0 hs1).truth (gokOf (L := Rows.codeTextOnceRow.laid) (by kernel_rfl) (by kernel_rfl) hL) (vs := #[v0, v1]) (W := W) rfl (fun ok hok D j x u hx hu => ?_)).mono fun e W' ⟨he, hb⟩ => ?_
  · match j with
    | 0 =>
      simp only [List.getElem?_cons_succ, List.getElem?_cons_zero, Option.some.injEq] at hx
      subst hx
      obtain rfl : v0 = u := by simpa using hu
      exact hr0 ok hok D
    | 1 =>
      simp only [List.getElem?_cons_succ, List.getElem?_cons_zero, Option.some.injEq] at hx
      subst hx
      obtain rfl : v1 = u := by simpa using hu
      exact hr1 ok hok D
    | j + 2 => simp at hx
  · subst he
    refine ⟨_, rfl, _, _, _, [], p0 ++ p1, [], hW', ?_, ?_, ?_, hb.frame _, fun h => by cases h⟩
    · exact trodAll_mk1 (shut_bool Tryd.underlying4 true)
    · exact trodAll_mk2 (Below.trod laidOutAll (by kernel_rfl) (of_decide_eq_true (by kernel_rfl)) h0 hb (fun x hx => hlt x (List.mem_append_left _ hx))) (Below.trod laidOutAll (by kernel_rfl) (of_decide_eq_true (by kernel_rfl)) h1 hb (fun x hx => hlt x (List.mem_append_right _ hx)))
    · rfl

theorem codeTextOnceHolds (HQ : ∀ (xs0 : List V) (xs1 : List V), shp tab 6 35 xs0 → shp tab 6 35 xs1 → QC Tryd.prog 9 [.agg xs0, .agg xs1] [] (.b true) []) : Rows.CodeTextOnceSaid :=
  OpenClaim.holds_of_wide 9 Tryd.f9 rfl rfl rfl rfl rfl rfl rfl ⟨rfl, rfl, rfl, rfl, rfl⟩ rfl rfl rfl rfl rfl (by kernel_rfl) Tryd.func9 (by kernel_rfl)
    (of_decide_eq_true (by kernel_rfl)) (by unfold Func.isWrapper; rw [if_neg (by decide +kernel)]; exact ⟨rfl, rfl⟩)
    (fun os started H enc _ => codeTextOnceLifted HQ os started H enc)

theorem codeTextOnceCard (HQ : ∀ (xs0 : List V) (xs1 : List V), shp tab 6 35 xs0 → shp tab 6 35 xs1 → QC Tryd.prog 9 [.agg xs0, .agg xs1] [] (.b true) []) : Rows.CodeTextOnceCardSaid :=
  Claim7.holds_tied_plain_at .later [] [.data, .data, .data] true (true, "e0d625a2e69adf01b107668993ea5ba20a030b330d5d389efb3f1299f4f792e2") false (codeTextOnceHolds HQ) (fun _ h => by cases h) (by kernel_rfl) (fun _ h => by cases h) codeTextOnce_row_tie rfl ⟨rfl, rfl⟩ (by kernel_rfl) rfl
    (fun f fn hf hfn => by
      obtain rfl : f = 9 := Option.some.inj ((show Tryd.prog.funcNamed "cocoon/cocoonlaw02.CodeTextOnce" = some 9 by kernel_rfl).symm.trans hf) |>.symm
      obtain rfl : fn = Tryd.f9 := (Option.some.inj (Tryd.func9.symm.trans hfn)).symm
      exact ⟨by kernel_rfl, fun j t ht => by
        rw [Tryd.params9] at ht
        have hm : t ∈ [35, 35] := by simpa using Array.mem_of_getElem? ht
        have hall : ([35, 35].all fun u => !Tryd.prog.wantsStandIn u) = true := by kernel_rfl
        exact (show Tryd.prog.wantsStandIn t = false by simpa using List.all_eq_true.1 hall t hm)⟩)
    (by kernel_rfl)

theorem codeTextOnce_card : Rows.CodeTextOnceCardSaid := codeTextOnceCard fun xs0 xs1 hs0 hs1 => by
  obtain ⟨p, rfl, hp⟩ := shp_progR (k := 0) hs0
  obtain ⟨q, rfl, hq⟩ := shp_progR (k := 0) hs1
  have h := w_L9 p q hp hq
  rw [L9_true p q hp hq] at h
  exact h
end Go.Proofs.YtaklafpfbhaoaaaDoor
end
