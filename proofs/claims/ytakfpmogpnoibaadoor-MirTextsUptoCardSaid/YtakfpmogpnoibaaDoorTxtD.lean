/- Contracts of the document's functions that write the text of a body. -/
import Derived.Test.YtakfpmogpnoibaaDoorLineA
import Derived.Test.YtakfpmogpnoibaaDoorMachD
import Derived.Test.YtakfpmogpnoibaaDoorTxtP
set_option linter.unusedVariables false
set_option linter.unusedSimpArgs false
set_option linter.constructorNameAsVariable false
section
namespace Go.Proofs.Tryd
open Go Go.AM
attribute [local simp] wpG_op wpG_nil contG_some wpG_guard guardG_v guardG_o guardG_tup gval pureOp stepG_if isPick pickG_pick pickB_b pickOK isCall step_move step_assign step_alloc step_box boxV_some step_load step_store step_binOp step_unOp step_fieldAddr faV step_indexAddr ixA_slc ixA_arr step_extract extV_tup step_nilCheck ncV_ptr ncV_rp ncV_fn ncV_mp step_build buildV step_buildSlice bsV step_index ixV_arr ixV_str step_append apB step_makeSlice msV_i step_makeFunc over step_len step_makeMap mmV step_mapUpdate step_insert muA_map muB_mp step_lookup lkA_map lkB_mp step_slice slcV_s slcV_sl slcV_ro cutB_some slObV_arr bound_none bound_some bndV_i lenB_str lenB_ro lenB_sl lenB_nil lenB_z ld_ptr ld_rp offV_ptr offV_rp idxV_ro idxV_sl unV_not unV_neg binV_int binV_str binV_eqlb binV_neqb intOp strOp St.put updL setOb St.ev toV St.lk cellsOf AM.valOf TK.agg stv fillV places TI.zero condT_true condT_false finS resL resSlot packV ren ren1 ren0 Value.cells builtinV appendV elemsOf keepT room_of wrap_in toIdx passed Function.comp_def take_len_map lenV touchOf hid tab1 tab2 tab3 tab4 tab5 tab6 tab7 tab8 tab9 tab10 tab11 tab12 tab15 tab16 tab17 tab18 tab19 tab20 tab21 tab22 tab23 tab24 tab25 tab26 tab27 tab28 tab29 tab30 tab31 tab32 tab33 tab34 tab35 tab36 tab37 tab38 tab39 tab40 tab41 tab42 tab43 tab44 tab45 tab46 tab47 tab48 tab49 tab50 tab51 tab52 tab53 tab54 tab55 tab57 tab58 tab59 tab61 tab62 tab63 tab64 tab65 tab66 tab67 tab68 tab69 tab70 tab71 tab72 tab73 tab74 tab75 tab76 tab77 tab78 tab79 tab80 tab81 tab82 tab83 tab84 tab85 tab86 tab87 tab88 tab89 tab90 tab91 tab92 tab93 tab94 tab95 tab96 tab97 tab98 tab99 tab100 tab101 tab103 tab104 tab105 tab106 tab107 tab108 tab109 tab110 tab111 tab112 tab113 tab114 tab115 tab116 tab117 tab118 tab119 tab120 tab121 tab122 tab123 tab124 tab125 tab126 tab127 tab128 tab129 tab130 tab131 tab132 tab133 tab135 tab137 tab138 tab140 tab141 tab142 tab143 tab144 tab145 tab146 tab147 tab148 tab149 tab150 tab151 tab152 tab153 tab155 tab156 tab157 tab158 tab159 tab160 tab161 tab162 tab163 tab164 tab165 tab166 tab167 tab168 tab170 tab171 tab172 tab173 tab174 tab175 tab176 tab177 tab178 tab179 tab180 tab181 tab182 tab186 tab187 tab188 tab189 tab190 tab191 tab192 tab193 tab194 tab195 armC_eq blockC_eq bodyC_eq enumC_eq fieldC_eq fnC_eq inC_eq localC_eq mirBodyC_eq operC_eq placeC_eq rvC_eq sourceC_eq spotC_eq stepC_eq stmtC_eq structC_eq tmC_eq tyC_eq useC_eq valueC_eq variantC_eq binV_eqls binV_neqs cutL_nil cutL_junk cutL_cons ren_arr ren_gone ren_unborn ren_var ren_row step_convert cvV_i cvV_sl cvV_s cvK_slc cvE_u8 bytesOf bor1 bor2 bor3 bor4
set_option linter.unusedSimpArgs false
set_option linter.unusedVariables false
set_option maxRecDepth 10000
set_option maxHeartbeats 4000000
noncomputable section
theorem noQC (z : Int) (h : False) : QC prog 88 [.i .i64 z] [] (.s (Lib.itoa z)) [] := h.elim
theorem wrap_in2 (n : Int) (h1 : -9223372036854775808 ≤ n) (h2 : n ≤ 9223372036854775807) : IntKind.i64.wrap n = n := wrap_in n h1 h2
theorem wrap_tdiv {a : Int} (h : 0 < a) : (IntKind.i64.wrap (Int.tdiv a 10)).toNat < a.toNat := by
 have ht : Int.tdiv a 10 = a / 10 := Int.tdiv_eq_ediv_of_nonneg (by omega)
 rw [ht]
 simp only [IntKind.wrap, IntKind.bits, IntKind.signed]; simp; omega
theorem wrap_lt (a : Int) : (IntKind.i64.wrap a).toNat < 18446744073709551616 := by
 simp only [IntKind.wrap, IntKind.bits, IntKind.signed]; simp; omega
theorem wrap_ge (a : Int) : -9223372036854775808 ≤ IntKind.i64.wrap a := by
 simp only [IntKind.wrap, IntKind.bits, IntKind.signed]; simp; omega
theorem digs_dec {a : Int} {s : List UInt8} {x : UInt8} (h : 0 < a ∨ s = []) : (IntKind.i64.wrap (Int.tdiv a 10)).toNat + (if [x] ++ s = [] then 18446744073709551616 else 0) < a.toNat + (if s = [] then 18446744073709551616 else 0) := by
 rw [if_neg (by simp)]
 have := wrap_lt (Int.tdiv a 10)
 by_cases hs : s = []
 ·rw [if_pos hs]; omega
 ·rw [if_neg hs]
  have := wrap_tdiv (h.resolve_right hs)
  omega
theorem neg_dec {p0 : Int} (h1 : p0 < 0) (h2 : ¬ p0 = -9223372036854775808) : (if IntKind.i64.wrap (0 - p0) < -9223372036854775808 then 2 else if IntKind.i64.wrap (0 - p0) < 0 then 1 else 0) < (if p0 < -9223372036854775808 then 2 else if p0 < 0 then 1 else 0) := by
 have h3 := wrap_ge (0 - p0)
 by_cases hq : p0 < -9223372036854775808
 ·rw [if_pos hq, if_neg (by omega)]; split <;> omega
 ·rw [if_neg hq, if_pos h1, wrap_in _ (by omega) (by omega), if_neg (by omega), if_neg (by omega)]; omega
def digI (a : Int) (s : List UInt8) : Prop := 0 ≤ a ∧ a.toNat * 10 ^ s.length ≤ 10 ^ 19 ∧ s.length ≤ 20
theorem digs_inv {a : Int} {s : List UInt8} {x : UInt8} (h : 0 < a ∨ s = []) (hi : digI a s) : digI (IntKind.i64.wrap (Int.tdiv a 10)) ([x] ++ s) := by
 obtain ⟨h0, h1, h2⟩ := hi
 have hb : a.toNat ≤ 10 ^ 19 := Nat.le_trans (Nat.le_mul_of_pos_right _ (Nat.pow_pos (by decide))) h1
 have ht : Int.tdiv a 10 = a / 10 := Int.tdiv_eq_ediv_of_nonneg h0
 have hw : IntKind.i64.wrap (Int.tdiv a 10) = a / 10 := by rw [ht]; exact wrap_in _ (by omega) (by omega)
 have hl : s.length ≤ 19 := by
  refine Nat.le_of_not_lt fun hlt => ?_
  have hs : s ≠ [] := by rintro rfl; simp at hlt
  have ha : 0 < a := h.resolve_right hs
  have h3 : 10 ^ 20 ≤ 10 ^ s.length := Nat.pow_le_pow_right (by decide) hlt
  have h4 : 1 * 10 ^ s.length ≤ a.toNat * 10 ^ s.length := Nat.mul_le_mul_right _ (by omega)
  omega
 rw [hw]
 refine ⟨by omega, ?_, by simp; omega⟩
 have h5 : 10 ^ ([x] ++ s).length = 10 * 10 ^ s.length := by simp [Nat.pow_succ, Nat.mul_comm]
 have hd : (a / 10).toNat * 10 ≤ a.toNat := by omega
 rw [h5, ← Nat.mul_assoc]
 exact Nat.le_trans (Nat.mul_le_mul_right _ hd) h1
def F36_l6  (a6_0 : Int) (a6_1 : List UInt8) : (List UInt8) :=
 (if (0 < a6_0) ∨ (a6_1 = ([] : List UInt8)) then F36_l6 (IntKind.i64.wrap (Int.tdiv a6_0 10)) (([UInt8.ofNat (((IntKind.u8.wrap (IntKind.i64.wrap (48 + (Int.tmod a6_0 10))))).toNat)] : List UInt8) ++ a6_1) else a6_1)
 termination_by a6_0.toNat + (if a6_1 = [] then 18446744073709551616 else 0)
 decreasing_by rename_i h; exact digs_dec h
def F36 (p0 : Int) : (List UInt8) :=
 (if p0 < 0 then (if p0 = (-9223372036854775808) then ([45, 57, 50, 50, 51, 51, 55, 50, 48, 51, 54, 56, 53, 52, 55, 55, 53, 56, 48, 56] : List UInt8) else (([45] : List UInt8) ++ (Lib.itoa (IntKind.i64.wrap (0 - p0))))) else (bnd (F36_l6 p0 ([] : List UInt8)) fun (v6 : (List UInt8)) => v6))
set_option maxHeartbeats 40000000 in
theorem w_F36p (p0 : Int) (hz : inI64 p0) (hp : 0 ≤ p0) : QC prog 88 [.i .i64 p0] [] (.s (F36 p0)) [] := by
 refine QC.of_body tabOK func88 rfl (by kernel_rfl) ?_
 simp only [f88]
 generalize e : F36 p0 = R
 unfold F36 at e
 refine EV.seq ?_
 refine EV.regionG tabOK ?_ -- region 0
 simp (maxSteps := 2000000) -implicitDefEqProofs
 refine EV.seq ?_
 refine EV.seq ?_
 refine EV.regionG tabOK ?_ -- region 1
 simp (maxSteps := 2000000) -implicitDefEqProofs
 refine EV.condT ?_
 simp -implicitDefEqProofs
 refine condT_intro (fun k1 => ?_) (fun k1 => ?_)
 ·try simp at k1
  obtain ⟨f1, e⟩ := pos_on2 e (by first | simpa using k1 | grind)
  try simp at f1
  refine EV.seq ?_
  refine EV.seq ?_
  refine EV.regionG tabOK ?_ -- region 2
  simp (maxSteps := 2000000) -implicitDefEqProofs
  refine EV.condT ?_
  simp -implicitDefEqProofs
  refine condT_intro (fun k2 => ?_) (fun k2 => ?_)
  ·try simp at k2
   obtain ⟨f2, e⟩ := pos_on2 e (by first | simpa using k2 | grind)
   try simp at f2
   refine EV.seq ?_
   refine EV.regionG tabOK ?_ -- region 3
   simp (maxSteps := 2000000) -implicitDefEqProofs
   refine EV.ret ?_
   simp only [thenK_ret, blockK_ret, scopeK_ret, bodyK_ret]
   subst e
   refine Fin.pure0 ?_
   first | (simp; done) | (simp <;> grind)
  ·try simp at k2
   obtain ⟨f2, e⟩ := neg_on2 e (by first | simpa using k2 | grind)
   try simp at f2
   refine EV.skip ?_
   simp only [thenK_normal, blockK_normal, scopeK_normal]
   refine EV.seq ?_
   have ct3 : (([45] : List UInt8)).length + ((Lib.itoa (IntKind.i64.wrap (0 - p0)))).length ≤ 9223372036854775807 := by (first | (exfalso; omega) | (have := (q6.2.2); simp; omega))
   try simp at ct3
   refine EV.regionG tabOK ?_ -- region 4
   simp (maxSteps := 2000000) -implicitDefEqProofs [ct3]
   refine callG_fun (noQC (IntKind.i64.wrap (0 - p0)) (by omega)) ?_ ?_
   ·first | (simp; done) | (simp [ct3]; done)
   simp (maxSteps := 2000000) -implicitDefEqProofs [ct3]
   refine EV.ret ?_
   simp only [thenK_ret, blockK_ret, scopeK_ret, bodyK_ret]
   subst e
   refine Fin.pure0 ?_
   first | (simp; done) | (simp <;> grind)
 ·try simp at k1
  obtain ⟨f1, e⟩ := neg_on2 e (by first | simpa using k1 | grind)
  try simp at f1
  refine EV.skip ?_
  simp only [thenK_normal, blockK_normal, scopeK_normal]
  refine EV.seq ?_
  refine EV.regionG tabOK ?_ -- region 5
  simp (maxSteps := 2000000) -implicitDefEqProofs
  refine EV.seq ?_
  obtain ⟨z6, e6, e⟩ := bnd_split e
  refine EV.nrm (fun v : { v : ((List UInt8)) × (Unit) // z6 = v.1 } => (fun (v6 : (List UInt8)) (g6 : Unit) => (⟨[J, J, J, .s v6, J, J, J, J, J, J, J, J, J, J, J, J, J, J, J, J, J, J, J, J, J, J, J, J, J], []⟩ : St)) v.1.1 v.1.2) ?_ ?_
  ·skip
   refine EV.block ?_
   refine EV.loopB (fun x : { x : Int × (List UInt8) // F36_l6 x.1 x.2 = z6 ∧ (fun (a6_0 : Int) (a6_1 : List UInt8) => digI a6_0 a6_1) x.1 x.2 } => (fun (a6_0 : Int) (a6_1 : List UInt8) => (⟨[.i .i64 a6_0, J, J, .s a6_1, J, J, J, J, J, J, J, J, J, J, J, J, J, J, J, J, J, J, J, J, J, J, J, J, J], []⟩ : St)) x.1.1 x.1.2) (fun x => (fun (a6_0 : Int) (a6_1 : List UInt8) => a6_0.toNat + (if a6_1 = [] then 18446744073709551616 else 0)) x.1.1 x.1.2) ⟨(p0, ([] : List UInt8)), e6, by first | exact digs_inv (by first | assumption | grind) (by assumption) | (unfold digI; have := hz.2; simp; omega)⟩ ?_ ?_
   ·skip
    try dsimp only
    try dsimp only
    refine Sub.cutF 0 (by simp) ?_ ?_ <;> simp [List.range_succ, toIdx_range, passed]
   ·skip
    rintro ⟨⟨a6_0, a6_1⟩, e6, q6⟩
    simp only at e6 ⊢
    try dsimp only at q6
    rw [F36_l6] at e6
    refine EV.seq ?_
    refine EV.seq ?_
    refine EV.regionG tabOK ?_ -- region 6
    simp (maxSteps := 2000000) -implicitDefEqProofs +contextual
    refine EV.condT ?_
    simp -implicitDefEqProofs
    refine condT_intro (fun k4 => ?_) (fun k4 => ?_)
    ·try simp at k4
     obtain ⟨f4, e6⟩ := pos_on2 e6 (by first | simpa using k4 | grind)
     try simp at f4
     refine EV.skip ?_
     simp only [thenK_normal, blockK_normal, scopeK_normal]
     refine EV.block ?_
     refine EV.seq ?_
     have ct5 : (([UInt8.ofNat (((IntKind.u8.wrap (IntKind.i64.wrap (48 + (Int.tmod a6_0 10))))).toNat)] : List UInt8)).length + (a6_1).length ≤ 9223372036854775807 := by (first | (exfalso; omega) | (have := (q6.2.2); simp; omega))
     try simp at ct5
     refine EV.regionG tabOK ?_ -- region 7
     simp (maxSteps := 2000000) -implicitDefEqProofs [ct5]
     refine EV.regionG tabOK ?_ -- region 8
     simp (maxSteps := 2000000) -implicitDefEqProofs [ct5]
     refine ⟨⟨((IntKind.i64.wrap (Int.tdiv a6_0 10)), (([UInt8.ofNat (((IntKind.u8.wrap (IntKind.i64.wrap (48 + (Int.tmod a6_0 10))))).toNat)] : List UInt8) ++ a6_1)), e6, by first | exact digs_inv (by first | assumption | grind) (by assumption) | (unfold digI; have := hz.2; simp; omega)⟩, by exact digs_dec (by first | assumption | grind), ?_⟩
     try dsimp only
     refine Sub.cutF 0 (by simp) ?_ ?_ <;> simp [List.range_succ, toIdx_range, passed, ct5]
    ·try simp at k4
     obtain ⟨f4, e6⟩ := neg_on2 e6 (by first | simpa using k4 | grind)
     try simp at f4
     refine EV.exit ?_
     simp -implicitDefEqProofs
     refine ⟨⟨(a6_1, ()), e6.symm⟩, ?_⟩
     try dsimp only
     refine Sub.cutF 0 (by simp) ?_ ?_ <;> simp [List.range_succ, toIdx_range, passed]
  ·skip
   rintro ⟨⟨v6, g6⟩, e6⟩
   simp only [thenK_normal, blockK_normal, scopeK_normal, bodyK_normal]
   replace e := bnd_on e e6
   try dsimp only at e
   refine EV.seq ?_
   refine EV.regionG tabOK ?_ -- region 9
   simp (maxSteps := 2000000) -implicitDefEqProofs
   refine EV.ret ?_
   simp only [thenK_ret, blockK_ret, scopeK_ret, bodyK_ret]
   subst e
   refine Fin.pure0 ?_
   first | (simp; done) | (simp <;> grind)

theorem wrap_u8 {x : Int} (h0 : 0 ≤ x) (h : x < 256) : IntKind.u8.wrap x = x := by
 simp only [IntKind.wrap, IntKind.bits, IntKind.signed]; simp; omega
theorem digit_eq {a : Int} (h : 0 ≤ a) : UInt8.ofNat (IntKind.u8.wrap (IntKind.i64.wrap (48 + Int.tmod a 10))).toNat = UInt8.ofNat (48 + a.toNat % 10) := by
 have h1 : Int.tmod a 10 = a % 10 := Int.tmod_eq_emod_of_nonneg h
 rw [h1, wrap_in _ (by omega) (by omega), wrap_u8 (by omega) (by omega)]
 congr 1
 omega
theorem F36_l6_eq (m : Nat) : ∀ (a : Int) (s : List UInt8), a.toNat ≤ m → 0 ≤ a → a ≤ 9223372036854775807 → F36_l6 a s = if s = [] then Lib.decDigits a.toNat else if a = 0 then s else Lib.decDigits a.toNat ++ s := by
 induction m with
 | zero =>
  intro a s h1 h2 h3
  obtain rfl : a = 0 := by omega
  rw [F36_l6]
  by_cases hs : s = []
  ·subst hs
   rw [if_pos (.inr rfl), F36_l6, if_neg (by simp), if_pos rfl, Lib.decDigits_one (by decide)]
   decide +kernel
  ·rw [if_neg (by simp [hs]), if_neg hs, if_pos rfl]
 | succ m ih =>
  intro a s h1 h2 h3
  by_cases h0 : a = 0
  ·subst h0
   exact ih 0 s (by simp) h2 h3
  ·have ht : Int.tdiv a 10 = a / 10 := Int.tdiv_eq_ediv_of_nonneg h2
   rw [F36_l6, if_pos (.inl (by omega)), ht, wrap_in _ (by omega) (by omega), digit_eq h2, ih _ _ (by omega) (by omega) (by omega), if_neg (by simp)]
   by_cases hd : a / 10 = 0
   ·rw [if_pos hd]
    have hdd : Lib.decDigits a.toNat = [UInt8.ofNat (48 + a.toNat)] := Lib.decDigits_one (by omega)
    have hm : a.toNat % 10 = a.toNat := by omega
    rw [hm, hdd]
    by_cases hs : s = []
    ·simp [hs]
    ·simp [hs, h0]
   ·rw [if_neg hd]
    have hdd : Lib.decDigits a.toNat = Lib.decDigits (a / 10).toNat ++ [UInt8.ofNat (48 + a.toNat % 10)] := by
     rw [Lib.decDigits, dif_neg (by omega)]
     congr 2
     omega
    rw [hdd]
    by_cases hs : s = []
    ·simp [hs]
    ·simp [hs, h0]
theorem dd_step {u : Nat} (h : 10 ≤ u) : Lib.decDigits u = Lib.decDigits (u / 10) ++ [UInt8.ofNat (48 + u % 10)] := by rw [Lib.decDigits, dif_neg (by omega)]
theorem itoa_min : ([45, 57, 50, 50, 51, 51, 55, 50, 48, 51, 54, 56, 53, 52, 55, 55, 53, 56, 48, 56] : List UInt8) = Lib.itoa (-9223372036854775808) := by
 have h : Lib.itoa (-9223372036854775808) = 45 :: Lib.decDigits 9223372036854775808 := rfl
 rw [h]
 iterate 18 rw [dd_step (by omega)]
 rw [Lib.decDigits_one (by omega)]
 decide
theorem inI64_neg {z : Int} (hz : inI64 z) : inI64 (IntKind.i64.wrap (0 - z)) := by
 unfold inI64 at *
 have := wrap_ge (0 - z)
 have := wrap_lt (0 - z)
 by_cases h : z = -9223372036854775808
 ·subst h; decide
 ·rw [wrap_in _ (by omega) (by omega)]; omega
theorem F36_eq (z : Int) (hz : inI64 z) : F36 z = Lib.itoa z := by
 obtain ⟨h1, h2⟩ := hz
 unfold F36
 by_cases h : z < 0
 ·rw [if_pos h]
  by_cases hm : z = -9223372036854775808
  ·rw [if_pos hm, hm]; exact itoa_min
  ·rw [if_neg hm, wrap_in _ (by omega) (by omega), Lib.itoa, Lib.itoa, if_neg (by omega), if_pos h]
   have : (0 - z).toNat = z.natAbs := by omega
   rw [this]; simp
 ·rw [if_neg h]
  have := F36_l6_eq z.toNat z [] (Nat.le_refl _) (by omega) h2
  rw [bnd_eq, this, if_pos rfl, Lib.itoa, if_neg h]

theorem w36p (z : Int) (hz : inI64 z) (hp : 0 ≤ z) : QC prog 88 [.i .i64 z] [] (.s (Lib.itoa z)) [] := by rw [← F36_eq z hz]; exact w_F36p z hz hp
set_option maxHeartbeats 40000000 in
theorem w_F36 (p0 : Int) (hz : inI64 p0) : QC prog 88 [.i .i64 p0] [] (.s (F36 p0)) [] := by
 refine QC.of_body tabOK func88 rfl (by kernel_rfl) ?_
 simp only [f88]
 generalize e : F36 p0 = R
 unfold F36 at e
 refine EV.seq ?_
 refine EV.regionG tabOK ?_ -- region 0
 simp (maxSteps := 2000000) -implicitDefEqProofs
 refine EV.seq ?_
 refine EV.seq ?_
 refine EV.regionG tabOK ?_ -- region 1
 simp (maxSteps := 2000000) -implicitDefEqProofs
 refine EV.condT ?_
 simp -implicitDefEqProofs
 refine condT_intro (fun k1 => ?_) (fun k1 => ?_)
 ·try simp at k1
  obtain ⟨f1, e⟩ := pos_on2 e (by first | simpa using k1 | grind)
  try simp at f1
  refine EV.seq ?_
  refine EV.seq ?_
  refine EV.regionG tabOK ?_ -- region 2
  simp (maxSteps := 2000000) -implicitDefEqProofs
  refine EV.condT ?_
  simp -implicitDefEqProofs
  refine condT_intro (fun k2 => ?_) (fun k2 => ?_)
  ·try simp at k2
   obtain ⟨f2, e⟩ := pos_on2 e (by first | simpa using k2 | grind)
   try simp at f2
   refine EV.seq ?_
   refine EV.regionG tabOK ?_ -- region 3
   simp (maxSteps := 2000000) -implicitDefEqProofs
   refine EV.ret ?_
   simp only [thenK_ret, blockK_ret, scopeK_ret, bodyK_ret]
   subst e
   refine Fin.pure0 ?_
   first | (simp; done) | (simp <;> grind)
  ·try simp at k2
   obtain ⟨f2, e⟩ := neg_on2 e (by first | simpa using k2 | grind)
   try simp at f2
   refine EV.skip ?_
   simp only [thenK_normal, blockK_normal, scopeK_normal]
   refine EV.seq ?_
   have ct3 : (([45] : List UInt8)).length + ((Lib.itoa (IntKind.i64.wrap (0 - p0)))).length ≤ 9223372036854775807 := by (first | (have := Lib.itoa_length_le _ (inI64_neg hz).1 (inI64_neg hz).2; simp at this ⊢; omega) | (have := (q6.2.2); simp; omega))
   try simp at ct3
   refine EV.regionG tabOK ?_ -- region 4
   simp (maxSteps := 2000000) -implicitDefEqProofs [ct3]
   refine callG_fun (w36p (IntKind.i64.wrap (0 - p0)) (inI64_neg hz) (by have := hz.1; rw [wrap_in _ (by omega) (by omega)]; omega)) ?_ ?_
   ·first | (simp; done) | (simp [ct3]; done)
   simp (maxSteps := 2000000) -implicitDefEqProofs [ct3]
   refine EV.ret ?_
   simp only [thenK_ret, blockK_ret, scopeK_ret, bodyK_ret]
   subst e
   refine Fin.pure0 ?_
   first | (simp; done) | (simp <;> grind)
 ·try simp at k1
  obtain ⟨f1, e⟩ := neg_on2 e (by first | simpa using k1 | grind)
  try simp at f1
  refine EV.skip ?_
  simp only [thenK_normal, blockK_normal, scopeK_normal]
  refine EV.seq ?_
  refine EV.regionG tabOK ?_ -- region 5
  simp (maxSteps := 2000000) -implicitDefEqProofs
  refine EV.seq ?_
  obtain ⟨z6, e6, e⟩ := bnd_split e
  refine EV.nrm (fun v : { v : ((List UInt8)) × (Unit) // z6 = v.1 } => (fun (v6 : (List UInt8)) (g6 : Unit) => (⟨[J, J, J, .s v6, J, J, J, J, J, J, J, J, J, J, J, J, J, J, J, J, J, J, J, J, J, J, J, J, J], []⟩ : St)) v.1.1 v.1.2) ?_ ?_
  ·skip
   refine EV.block ?_
   refine EV.loopB (fun x : { x : Int × (List UInt8) // F36_l6 x.1 x.2 = z6 ∧ (fun (a6_0 : Int) (a6_1 : List UInt8) => digI a6_0 a6_1) x.1 x.2 } => (fun (a6_0 : Int) (a6_1 : List UInt8) => (⟨[.i .i64 a6_0, J, J, .s a6_1, J, J, J, J, J, J, J, J, J, J, J, J, J, J, J, J, J, J, J, J, J, J, J, J, J], []⟩ : St)) x.1.1 x.1.2) (fun x => (fun (a6_0 : Int) (a6_1 : List UInt8) => a6_0.toNat + (if a6_1 = [] then 18446744073709551616 else 0)) x.1.1 x.1.2) ⟨(p0, ([] : List UInt8)), e6, by first | exact digs_inv (by first | assumption | grind) (by assumption) | (unfold digI; have := hz.2; simp; omega)⟩ ?_ ?_
   ·skip
    try dsimp only
    try dsimp only
    refine Sub.cutF 0 (by simp) ?_ ?_ <;> simp [List.range_succ, toIdx_range, passed]
   ·skip
    rintro ⟨⟨a6_0, a6_1⟩, e6, q6⟩
    simp only at e6 ⊢
    try dsimp only at q6
    rw [F36_l6] at e6
    refine EV.seq ?_
    refine EV.seq ?_
    refine EV.regionG tabOK ?_ -- region 6
    simp (maxSteps := 2000000) -implicitDefEqProofs +contextual
    refine EV.condT ?_
    simp -implicitDefEqProofs
    refine condT_intro (fun k4 => ?_) (fun k4 => ?_)
    ·try simp at k4
     obtain ⟨f4, e6⟩ := pos_on2 e6 (by first | simpa using k4 | grind)
     try simp at f4
     refine EV.skip ?_
     simp only [thenK_normal, blockK_normal, scopeK_normal]
     refine EV.block ?_
     refine EV.seq ?_
     have ct5 : (([UInt8.ofNat (((IntKind.u8.wrap (IntKind.i64.wrap (48 + (Int.tmod a6_0 10))))).toNat)] : List UInt8)).length + (a6_1).length ≤ 9223372036854775807 := by (first | (have := Lib.itoa_length_le _ (inI64_neg hz).1 (inI64_neg hz).2; simp at this ⊢; omega) | (have := (q6.2.2); simp; omega))
     try simp at ct5
     refine EV.regionG tabOK ?_ -- region 7
     simp (maxSteps := 2000000) -implicitDefEqProofs [ct5]
     refine EV.regionG tabOK ?_ -- region 8
     simp (maxSteps := 2000000) -implicitDefEqProofs [ct5]
     refine ⟨⟨((IntKind.i64.wrap (Int.tdiv a6_0 10)), (([UInt8.ofNat (((IntKind.u8.wrap (IntKind.i64.wrap (48 + (Int.tmod a6_0 10))))).toNat)] : List UInt8) ++ a6_1)), e6, by first | exact digs_inv (by first | assumption | grind) (by assumption) | (unfold digI; have := hz.2; simp; omega)⟩, by exact digs_dec (by first | assumption | grind), ?_⟩
     try dsimp only
     refine Sub.cutF 0 (by simp) ?_ ?_ <;> simp [List.range_succ, toIdx_range, passed, ct5]
    ·try simp at k4
     obtain ⟨f4, e6⟩ := neg_on2 e6 (by first | simpa using k4 | grind)
     try simp at f4
     refine EV.exit ?_
     simp -implicitDefEqProofs
     refine ⟨⟨(a6_1, ()), e6.symm⟩, ?_⟩
     try dsimp only
     refine Sub.cutF 0 (by simp) ?_ ?_ <;> simp [List.range_succ, toIdx_range, passed]
  ·skip
   rintro ⟨⟨v6, g6⟩, e6⟩
   simp only [thenK_normal, blockK_normal, scopeK_normal, bodyK_normal]
   replace e := bnd_on e e6
   try dsimp only at e
   refine EV.seq ?_
   refine EV.regionG tabOK ?_ -- region 9
   simp (maxSteps := 2000000) -implicitDefEqProofs
   refine EV.ret ?_
   simp only [thenK_ret, blockK_ret, scopeK_ret, bodyK_ret]
   subst e
   refine Fin.pure0 ?_
   first | (simp; done) | (simp <;> grind)

theorem w36 (z : Int) (hz : inI64 z) : QC prog 88 [.i .i64 z] [] (.s (dig z)) [] := by rw [dig_eq hz, ← F36_eq z hz]; exact w_F36 z hz

def rDigits (p0 : Int) : (List UInt8) :=
 (dig p0)
set_option maxHeartbeats 40000000 in
theorem w_rDigits (p0 : Int) (hz : inI64 p0) : QC prog 72 [.i .i64 p0] [] (.s (rDigits p0)) [] := by
 refine QC.of_body tabOK func72 rfl (by kernel_rfl) ?_
 simp only [f72]
 generalize e : rDigits p0 = R
 unfold rDigits at e
 refine EV.seq ?_
 refine EV.regionG tabOK ?_ -- region 0
 simp (maxSteps := 2000000) -implicitDefEqProofs
 refine EV.seq ?_
 have := dig_len p0
 refine EV.regionG tabOK ?_ -- region 1
 simp (maxSteps := 2000000) -implicitDefEqProofs
 refine callG_fun (w36 p0 (by first | assumption | exact inI64_of (by omega) (by omega))) ?_ ?_
 ·simp
 simp (maxSteps := 2000000) -implicitDefEqProofs
 refine EV.ret ?_
 simp only [thenK_ret, blockK_ret, scopeK_ret, bodyK_ret]
 subst e
 refine Fin.pure0 ?_
 first | (simp; done) | (simp <;> grind)

theorem w_rDigits' (z : Int) (hz : inI64 z) : QC prog 72 [.i .i64 z] [] (.s (dig z)) [] := w_rDigits z hz

def rD (p0 : Int) : (List UInt8) :=
 (dig p0)
set_option maxHeartbeats 40000000 in
theorem w_rD (p0 : Int) (hz : inI64 p0) : QC prog 38 [.i .i64 p0] [] (.s (rD p0)) [] := by
 refine QC.of_body tabOK func38 rfl (by kernel_rfl) ?_
 simp only [f38]
 generalize e : rD p0 = R
 unfold rD at e
 refine EV.seq ?_
 refine EV.regionG tabOK ?_ -- region 0
 simp (maxSteps := 2000000) -implicitDefEqProofs
 refine EV.seq ?_
 have := dig_len p0
 refine EV.regionG tabOK ?_ -- region 1
 simp (maxSteps := 2000000) -implicitDefEqProofs
 refine callG_fun (w_rDigits' p0 (by first | assumption | exact inI64_of (by omega) (by omega))) ?_ ?_
 ·simp
 simp (maxSteps := 2000000) -implicitDefEqProofs
 refine EV.ret ?_
 simp only [thenK_ret, blockK_ret, scopeK_ret, bodyK_ret]
 subst e
 refine Fin.pure0 ?_
 first | (simp; done) | (simp <;> grind)

theorem w_rD' (z : Int) (hz : inI64 z) : QC prog 38 [.i .i64 z] [] (.s (dig z)) [] := w_rD z hz
def rSpotT_l3  : List Int → (List UInt8) → (List UInt8)
 | [], a3_0 => a3_0
 | x3 :: xs3, a3_0 => rSpotT_l3 xs3 ((a3_0 ++ ([46] : List UInt8)) ++ (dig x3))
def rSpotT (p0 : SpotD) : (List UInt8) :=
 (bnd (rSpotT_l3 p0.path (dig p0.local_)) fun (v3 : (List UInt8)) => v3)
set_option maxHeartbeats 40000000 in
theorem w_rSpotT (p0 : SpotD) (h : SpotOK p0) : QC prog 73 [.agg [.i .i64 p0.local_, .ro 1 (p0.path.map (fun z => [.i .i64 z]))]] [] (.s (rSpotT p0)) [] := by
 refine QC.of_body tabOK func73 rfl (by kernel_rfl) ?_
 simp only [f73]
 generalize e : rSpotT p0 = R
 unfold rSpotT at e
 obtain ⟨h1, h2, h3⟩ := h
 refine EV.seq ?_
 refine EV.regionG tabOK ?_ -- region 0
 simp (maxSteps := 2000000) -implicitDefEqProofs
 refine EV.seq ?_
 have := dig_len p0.local_
 refine EV.regionG tabOK ?_ -- region 1
 simp (maxSteps := 2000000) -implicitDefEqProofs
 refine callG_fun (w_rD' p0.local_ (by first | assumption | exact inI64_of (by omega) (by omega))) ?_ ?_
 ·simp
 simp (maxSteps := 2000000) -implicitDefEqProofs
 refine EV.seq ?_
 refine EV.seq ?_
 refine EV.regionG tabOK ?_ -- region 2
 simp (maxSteps := 2000000) -implicitDefEqProofs
 obtain ⟨z3, e3, e⟩ := bnd_split e
 refine EV.nrm (fun v : { v : ((List UInt8)) × (Unit) // z3 = v.1 } => (fun (v3 : (List UInt8)) (g3 : Unit) => (⟨[J, J, J, .s v3, J, J, J, J, J, J, J, J, J, J, J, J, J, J, J, J, J, J, J, J, J], []⟩ : St)) v.1.1 v.1.2) ?_ ?_
 ·skip
  refine EV.block ?_
  refine EV.loopB (fun x : { x : Nat × (List UInt8) // x.1 ≤ p0.path.length ∧ rSpotT_l3 (p0.path.drop x.1) x.2 = z3 ∧ (fun (j3 : Nat) (a3_0 : List UInt8) => a3_0.length ≤ 30 + j3 * 22) x.1 x.2 } => (fun (j3 : Nat) (a3_0 : List UInt8) => (⟨[J, .ptr 0 0 0 0, J, .s a3_0, .i .i64 (j3 : Int), J, J, J, J, J, J, J, J, J, J, J, J, J, J, J, J, J, J, J, J], [.arr 0 2 [[.i .i64 p0.local_, .ro 1 (p0.path.map (fun z => [.i .i64 z]))]]]⟩ : St)) x.1.1 x.1.2) (fun x => p0.path.length - x.1.1) ⟨(0, (dig p0.local_)), Nat.zero_le _, e3, by ((try dsimp only); first | omega | assumption | (simp; done) | (simp; assumption) | (simp; omega) | (simp at *; omega) | simp_all)⟩ ?_ ?_
  ·skip
   try dsimp only
   try dsimp only
   refine Sub.cutF 1 (by simp) ?_ ?_ <;> simp [List.range_succ, toIdx_range, passed]
  ·skip
   rintro ⟨⟨j3, a3_0⟩, hi3, e3, q3⟩
   simp only at hi3 e3 ⊢
   try dsimp only at q3
   refine EV.seq ?_
   refine EV.seq ?_
   refine EV.regionG tabOK ?_ -- region 3
   simp (maxSteps := 2000000) -implicitDefEqProofs
   refine EV.room 10 (by rfl) (fun mj3 => ?_)
   simp at mj3
   refine EV.condT ?_
   simp -implicitDefEqProofs
   refine condT_intro (fun k1 => ?_) (fun k1 => ?_)
   ·try simp at k1
    have u1 : j3 < p0.path.length := by omega
    obtain ⟨x3, hx3⟩ : ∃ z, p0.path[j3] = z := ⟨_, rfl⟩
    have mx3 : x3 ∈ p0.path := by rw [← hx3]; exact List.getElem_mem _
    have hv3 := h3 x3 mx3
    have := dig_len x3
    rw [List.drop_eq_getElem_cons u1, hx3, rSpotT_l3] at e3
    refine EV.skip ?_
    simp only [thenK_normal, blockK_normal, scopeK_normal]
    refine EV.seq ?_
    refine EV.block ?_
    have ct2 : (a3_0).length + (([46] : List UInt8)).length ≤ 9223372036854775807 := by (first | omega | (simp; omega))
    try simp at ct2
    have := dig_len x3
    have ct3 : ((a3_0 ++ ([46] : List UInt8))).length + ((dig x3)).length ≤ 9223372036854775807 := by (first | omega | (simp; omega))
    try simp at ct3
    refine EV.regionG tabOK ?_ -- region 5
    simp (maxSteps := 2000000) -implicitDefEqProofs [k1, u1, hx3, ct2, ct3]
    refine callG_fun (w_rD' x3 (by first | assumption | exact inI64_of (by omega) (by omega))) ?_ ?_
    ·first | (simp; done) | (simp [k1, u1, hx3, ct2, ct3]; done)
    simp (maxSteps := 2000000) -implicitDefEqProofs [k1, u1, hx3, ct2, ct3]
    refine EV.regionG tabOK ?_ -- region 4
    simp (maxSteps := 2000000) -implicitDefEqProofs [k1, u1, hx3, ct2, ct3]
    have w3 : IntKind.i64.wrap ((j3 : Int) + 1) = (j3 : Int) + 1 := wrap_in _ (by omega) (by omega)
    refine ⟨⟨(j3 + 1, ((a3_0 ++ ([46] : List UInt8)) ++ (dig x3))), by omega, e3, by ((try dsimp only); first | omega | assumption | (simp; done) | (simp; assumption) | (simp; omega) | (simp at *; omega) | simp_all)⟩, by dsimp only; omega, ?_⟩
    try dsimp only
    refine Sub.cutF 1 (by simp) ?_ ?_ <;> simp [List.range_succ, toIdx_range, passed, k1, u1, hx3, ct2, ct3, w3]
   ·try simp at k1
    have d1 : p0.path.drop j3 = [] := List.drop_eq_nil_of_le (by omega)
    rw [d1, rSpotT_l3] at e3
    refine EV.exit ?_
    simp -implicitDefEqProofs
    refine ⟨⟨(a3_0, ()), e3.symm⟩, ?_⟩
    try dsimp only
    refine Sub.cutF 0 (by simp) ?_ ?_ <;> simp [List.range_succ, toIdx_range, passed]
 ·skip
  rintro ⟨⟨v3, g3⟩, e3⟩
  simp only [thenK_normal, blockK_normal, scopeK_normal, bodyK_normal]
  replace e := bnd_on e e3
  try dsimp only at e
  refine EV.seq ?_
  refine EV.regionG tabOK ?_ -- region 6
  simp (maxSteps := 2000000) -implicitDefEqProofs
  refine EV.ret ?_
  simp only [thenK_ret, blockK_ret, scopeK_ret, bodyK_ret]
  subst e
  refine Fin.pure0 ?_
  first | (simp; done) | (simp <;> grind)
theorem rSpotT_eq (p0 : SpotD) : rSpotT p0 = spotT p0 := by
 have h : ∀ (l : List Int) (a : List UInt8), rSpotT_l3 l a = a ++ (l.map fun k => 46 :: dig k).flatten := by
  intro l
  induction l with
  | nil => intro a; simp [rSpotT_l3]
  | cons x l ih => intro a; simp [rSpotT_l3, ih]
 unfold rSpotT spotT
 simp [bnd, h]
theorem w_rSpotT' (p0 : SpotD) (h : SpotOK p0) : QC prog 73 [.agg [.i .i64 p0.local_, .ro 1 (p0.path.map (fun z => [.i .i64 z]))]] [] (.s (spotT p0)) [] := by rw [← rSpotT_eq p0]; exact w_rSpotT p0 h


def rUseT (p0 : UseD) : (List UInt8) :=
 (if p0.num = true then (([35] : List UInt8) ++ (dig p0.n)) else (if p0.move = true then (([109, 111, 118, 101, 32] : List UInt8) ++ (spotT p0.s)) else (([99, 111, 112, 121, 32] : List UInt8) ++ (spotT p0.s))))
set_option maxHeartbeats 40000000 in
theorem w_rUseT (p0 : UseD) (h : UseOK p0) : QC prog 75 [.agg [.b p0.num, .i .i64 p0.n, .b p0.move, .i .i64 p0.s.local_, .ro 1 (p0.s.path.map (fun z => [.i .i64 z]))]] [] (.s (rUseT p0)) [] := by
 refine QC.of_body tabOK func75 rfl (by kernel_rfl) ?_
 simp only [f75]
 generalize e : rUseT p0 = R
 unfold rUseT at e
 obtain ⟨h1, h2⟩ := h
 refine EV.seq ?_
 refine EV.regionG tabOK ?_ -- region 0
 simp (maxSteps := 2000000) -implicitDefEqProofs
 refine EV.seq ?_
 refine EV.seq ?_
 refine EV.regionG tabOK ?_ -- region 1
 simp (maxSteps := 2000000) -implicitDefEqProofs
 refine EV.condT ?_
 simp -implicitDefEqProofs
 refine condT_intro (fun k1 => ?_) (fun k1 => ?_)
 ·try simp at k1
  obtain ⟨f1, e⟩ := pos_on2 e (by first | simpa using k1 | grind)
  try simp at f1
  refine EV.seq ?_
  have := dig_len p0.n
  have ct2 : (([35] : List UInt8)).length + ((dig p0.n)).length ≤ 9223372036854775807 := by (first | omega | (simp; omega))
  try simp at ct2
  refine EV.regionG tabOK ?_ -- region 2
  simp (maxSteps := 2000000) -implicitDefEqProofs [ct2]
  refine callG_fun (w_rD' p0.n (by first | assumption | exact inI64_of (by omega) (by omega))) ?_ ?_
  ·first | (simp; done) | (simp [ct2]; done)
  simp (maxSteps := 2000000) -implicitDefEqProofs [ct2]
  refine EV.ret ?_
  simp only [thenK_ret, blockK_ret, scopeK_ret, bodyK_ret]
  subst e
  refine Fin.pure0 ?_
  first | (simp; done) | (simp <;> grind)
 ·try simp at k1
  obtain ⟨f1, e⟩ := neg_on2 e (by first | simpa using k1 | grind)
  try simp at f1
  refine EV.skip ?_
  simp only [thenK_normal, blockK_normal, scopeK_normal]
  refine EV.seq ?_
  refine EV.seq ?_
  refine EV.regionG tabOK ?_ -- region 3
  simp (maxSteps := 2000000) -implicitDefEqProofs
  refine EV.condT ?_
  simp -implicitDefEqProofs
  refine condT_intro (fun k3 => ?_) (fun k3 => ?_)
  ·try simp at k3
   obtain ⟨f3, e⟩ := pos_on2 e (by first | simpa using k3 | grind)
   try simp at f3
   refine EV.seq ?_
   have := spotT_len p0.s (by first | assumption | grind)
   have ct4 : (([109, 111, 118, 101, 32] : List UInt8)).length + ((spotT p0.s)).length ≤ 9223372036854775807 := by (first | omega | (simp; omega))
   try simp at ct4
   refine EV.regionG tabOK ?_ -- region 4
   simp (maxSteps := 2000000) -implicitDefEqProofs [ct4]
   refine callG_fun (w_rSpotT' p0.s (by first | assumption | grind)) ?_ ?_
   ·first | (simp; done) | (simp [ct4]; done)
   simp (maxSteps := 2000000) -implicitDefEqProofs [ct4]
   refine EV.ret ?_
   simp only [thenK_ret, blockK_ret, scopeK_ret, bodyK_ret]
   subst e
   refine Fin.pure0 ?_
   first | (simp; done) | (simp <;> grind)
  ·try simp at k3
   obtain ⟨f3, e⟩ := neg_on2 e (by first | simpa using k3 | grind)
   try simp at f3
   refine EV.skip ?_
   simp only [thenK_normal, blockK_normal, scopeK_normal]
   refine EV.seq ?_
   have := spotT_len p0.s (by first | assumption | grind)
   have ct5 : (([99, 111, 112, 121, 32] : List UInt8)).length + ((spotT p0.s)).length ≤ 9223372036854775807 := by (first | omega | (simp; omega))
   try simp at ct5
   refine EV.regionG tabOK ?_ -- region 5
   simp (maxSteps := 2000000) -implicitDefEqProofs [ct5]
   refine callG_fun (w_rSpotT' p0.s (by first | assumption | grind)) ?_ ?_
   ·first | (simp; done) | (simp [ct5]; done)
   simp (maxSteps := 2000000) -implicitDefEqProofs [ct5]
   refine EV.ret ?_
   simp only [thenK_ret, blockK_ret, scopeK_ret, bodyK_ret]
   subst e
   refine Fin.pure0 ?_
   first | (simp; done) | (simp <;> grind)
theorem rUseT_eq (p0 : UseD) : rUseT p0 = useT p0 := by
 unfold rUseT useT
 simp
theorem w_rUseT' (p0 : UseD) (h : UseOK p0) : QC prog 75 [.agg [.b p0.num, .i .i64 p0.n, .b p0.move, .i .i64 p0.s.local_, .ro 1 (p0.s.path.map (fun z => [.i .i64 z]))]] [] (.s (useT p0)) [] := by rw [← rUseT_eq p0]; exact w_rUseT p0 h
def rValueT_l3  : List UseD → (List UInt8) → (List UInt8)
 | [], a3_0 => a3_0
 | x3 :: xs3, a3_0 => rValueT_l3 xs3 ((a3_0 ++ ([32] : List UInt8)) ++ (useT x3))
def rValueT (p0 : ValueD) : (List UInt8) :=
 (bnd (rValueT_l3 p0.uses (((((dig p0.k) ++ ([32] : List UInt8)) ++ (dig p0.which)) ++ ([32] : List UInt8)) ++ (dig p0.tag))) fun (v3 : (List UInt8)) => (if ((p0.k = 6) ∨ (p0.k = 7)) ∨ (p0.k = 9) then ((v3 ++ ([32] : List UInt8)) ++ (spotT p0.s)) else v3))
set_option maxHeartbeats 40000000 in
theorem w_rValueT (p0 : ValueD) (h : ValueOK p0) : QC prog 74 [.agg [.i .i64 p0.k, .ro 5 (p0.uses.map useC), .i .i64 p0.s.local_, .ro 1 (p0.s.path.map (fun z => [.i .i64 z])), .i .i64 p0.which, .i .i64 p0.tag]] [] (.s (rValueT p0)) [] := by
 refine QC.of_body tabOK func74 rfl (by kernel_rfl) ?_
 simp only [f74]
 generalize e : rValueT p0 = R
 unfold rValueT at e
 obtain ⟨h1, h2, h3, h4, h5, h6⟩ := h
 refine EV.seq ?_
 refine EV.regionG tabOK ?_ -- region 0
 simp (maxSteps := 2000000) -implicitDefEqProofs
 refine EV.seq ?_
 have := dig_len p0.k
 have ct1 : ((dig p0.k)).length + (([32] : List UInt8)).length ≤ 9223372036854775807 := by (first | omega | (simp; omega))
 try simp at ct1
 have := dig_len p0.which
 have ct2 : (((dig p0.k) ++ ([32] : List UInt8))).length + ((dig p0.which)).length ≤ 9223372036854775807 := by (first | omega | (simp; omega))
 try simp at ct2
 have ct3 : ((((dig p0.k) ++ ([32] : List UInt8)) ++ (dig p0.which))).length + (([32] : List UInt8)).length ≤ 9223372036854775807 := by (first | omega | (simp; omega))
 try simp at ct3
 have := dig_len p0.tag
 have ct4 : (((((dig p0.k) ++ ([32] : List UInt8)) ++ (dig p0.which)) ++ ([32] : List UInt8))).length + ((dig p0.tag)).length ≤ 9223372036854775807 := by (first | omega | (simp; omega))
 try simp at ct4
 refine EV.drawG tabOK mixedOK ?_ -- region 1
 simp (maxSteps := 2000000) -implicitDefEqProofs [ct1, ct2, ct3, ct4]
 refine callG_fun (w_rD' p0.k (by first | assumption | exact inI64_of (by omega) (by omega))) ?_ ?_
 ·first | (simp; done) | (simp [ct1, ct2, ct3, ct4]; done)
 simp (maxSteps := 2000000) -implicitDefEqProofs [ct1, ct2, ct3, ct4]
 refine callG_fun (w_rD' p0.which (by first | assumption | exact inI64_of (by omega) (by omega))) ?_ ?_
 ·first | (simp; done) | (simp [ct1, ct2, ct3, ct4]; done)
 simp (maxSteps := 2000000) -implicitDefEqProofs [ct1, ct2, ct3, ct4]
 refine callG_fun (w_rD' p0.tag (by first | assumption | exact inI64_of (by omega) (by omega))) ?_ ?_
 ·first | (simp; done) | (simp [ct1, ct2, ct3, ct4]; done)
 simp (maxSteps := 2000000) -implicitDefEqProofs [ct1, ct2, ct3, ct4]
 refine And.intro ?_ ?_
 ·first | decide +kernel | (simp -implicitDefEqProofs; decide +kernel) | (split <;> decide +kernel)
 try simp -implicitDefEqProofs
 refine EV.seq ?_
 refine EV.seq ?_
 refine EV.regionG tabOK ?_ -- region 2
 simp (maxSteps := 2000000) -implicitDefEqProofs [ct1, ct2, ct3, ct4]
 obtain ⟨z3, e3, e⟩ := bnd_split e
 refine EV.nrm (fun v : { v : ((List UInt8)) × (Unit) // z3 = v.1 ∧ (fun (v3 : (List UInt8)) => v3.length ≤ 1590000) v.1 } => (fun (v3 : (List UInt8)) (g3 : Unit) => (⟨[J, .ptr 0 0 0 0, J, .s v3, J, J, J, J, J, J, J, J, J, J, J, J, J, J, J, J, J, J, J, J, J, J, J, J, J, J, J, J, J, J, J, J, J, J, J, J, J, J, J, J, J, J, J, J, J, J, J, J, J, J], [.arr 0 6 [[.i .i64 p0.k, .ro 5 (p0.uses.map useC), .i .i64 p0.s.local_, .ro 1 (p0.s.path.map (fun z => [.i .i64 z])), .i .i64 p0.which, .i .i64 p0.tag]]]⟩ : St)) v.1.1 v.1.2) ?_ ?_
 ·skip
  refine EV.block ?_
  refine EV.loopB (fun x : { x : Nat × (List UInt8) // x.1 ≤ p0.uses.length ∧ rValueT_l3 (p0.uses.drop x.1) x.2 = z3 ∧ (fun (j3 : Nat) (a3_0 : List UInt8) => a3_0.length ≤ 70 + j3 * 6011) x.1 x.2 } => (fun (j3 : Nat) (a3_0 : List UInt8) => (⟨[J, .ptr 0 0 0 0, J, .s a3_0, .i .i64 (j3 : Int), J, J, J, J, J, J, J, J, J, J, J, J, J, J, J, J, J, J, J, J, J, J, J, J, J, J, J, J, J, J, J, J, J, J, J, J, J, J, J, J, J, J, J, J, J, J, J, J, J], [.arr 0 6 [[.i .i64 p0.k, .ro 5 (p0.uses.map useC), .i .i64 p0.s.local_, .ro 1 (p0.s.path.map (fun z => [.i .i64 z])), .i .i64 p0.which, .i .i64 p0.tag]]]⟩ : St)) x.1.1 x.1.2) (fun x => p0.uses.length - x.1.1) ⟨(0, (((((dig p0.k) ++ ([32] : List UInt8)) ++ (dig p0.which)) ++ ([32] : List UInt8)) ++ (dig p0.tag))), Nat.zero_le _, e3, by ((try dsimp only); first | omega | assumption | (simp; done) | (simp; assumption) | (simp; omega) | (simp at *; omega) | simp_all)⟩ ?_ ?_
  ·skip
   try dsimp only
   try dsimp only
   refine Sub.cutF 1 (by simp) ?_ ?_ <;> simp [List.range_succ, toIdx_range, passed, ct1, ct2, ct3, ct4]
  ·skip
   rintro ⟨⟨j3, a3_0⟩, hi3, e3, q3⟩
   simp only at hi3 e3 ⊢
   try dsimp only at q3
   refine EV.seq ?_
   refine EV.seq ?_
   refine EV.regionG tabOK ?_ -- region 3
   simp (maxSteps := 2000000) -implicitDefEqProofs [ct1, ct2, ct3, ct4]
   refine EV.room 20 (by rfl) (fun mj3 => ?_)
   simp at mj3
   refine EV.condT ?_
   simp -implicitDefEqProofs [ct1, ct2, ct3, ct4]
   refine condT_intro (fun k5 => ?_) (fun k5 => ?_)
   ·try simp at k5
    have u5 : j3 < p0.uses.length := by omega
    obtain ⟨x3, hx3⟩ : ∃ z, p0.uses[j3] = z := ⟨_, rfl⟩
    have mx3 : x3 ∈ p0.uses := by rw [← hx3]; exact List.getElem_mem _
    have hv3 := h5 x3 mx3
    rw [List.drop_eq_getElem_cons u5, hx3, rValueT_l3] at e3
    refine EV.skip ?_
    simp only [thenK_normal, blockK_normal, scopeK_normal]
    refine EV.seq ?_
    refine EV.block ?_
    have ct6 : (a3_0).length + (([32] : List UInt8)).length ≤ 9223372036854775807 := by (first | omega | (simp; omega))
    try simp at ct6
    have := useT_len x3 (by first | assumption | grind)
    have ct7 : ((a3_0 ++ ([32] : List UInt8))).length + ((useT x3)).length ≤ 9223372036854775807 := by (first | omega | (simp; omega))
    try simp at ct7
    refine EV.regionG tabOK ?_ -- region 5
    simp (maxSteps := 2000000) -implicitDefEqProofs [ct1, ct2, ct3, ct4, k5, u5, hx3, ct6, ct7]
    refine callG_fun (w_rUseT' x3 (by first | assumption | grind)) ?_ ?_
    ·first | (simp; done) | (simp [ct1, ct2, ct3, ct4, k5, u5, hx3, ct6, ct7]; done)
    simp (maxSteps := 2000000) -implicitDefEqProofs [ct1, ct2, ct3, ct4, k5, u5, hx3, ct6, ct7]
    refine EV.regionG tabOK ?_ -- region 4
    simp (maxSteps := 2000000) -implicitDefEqProofs [ct1, ct2, ct3, ct4, k5, u5, hx3, ct6, ct7]
    have w3 : IntKind.i64.wrap ((j3 : Int) + 1) = (j3 : Int) + 1 := wrap_in _ (by omega) (by omega)
    refine ⟨⟨(j3 + 1, ((a3_0 ++ ([32] : List UInt8)) ++ (useT x3))), by omega, e3, by ((try dsimp only); first | omega | assumption | (simp; done) | (simp; assumption) | (simp; omega) | (simp at *; omega) | simp_all)⟩, by dsimp only; omega, ?_⟩
    try dsimp only
    refine Sub.cutF 1 (by simp) ?_ ?_ <;> simp [List.range_succ, toIdx_range, passed, ct1, ct2, ct3, ct4, k5, u5, hx3, ct6, ct7, w3]
   ·try simp at k5
    have d5 : p0.uses.drop j3 = [] := List.drop_eq_nil_of_le (by omega)
    rw [d5, rValueT_l3] at e3
    refine EV.exit ?_
    simp -implicitDefEqProofs
    refine ⟨⟨(a3_0, ()), e3.symm, by ((try dsimp only); first | omega | assumption | (simp; done) | (simp; assumption) | (simp; omega) | (simp at *; omega) | simp_all)⟩, ?_⟩
    try dsimp only
    refine Sub.cutF 1 (by simp) ?_ ?_ <;> simp [List.range_succ, toIdx_range, passed, ct1, ct2, ct3, ct4]
 ·skip
  rintro ⟨⟨v3, g3⟩, e3, p3⟩
  simp only [thenK_normal, blockK_normal, scopeK_normal, bodyK_normal]
  try dsimp only at p3
  replace e := bnd_on e e3
  try dsimp only at e
  refine EV.seq ?_
  refine EV.seq ?_
  refine EV.regionG tabOK ?_ -- region 6
  simp (maxSteps := 2000000) -implicitDefEqProofs +contextual [ct1, ct2, ct3, ct4]
  refine EV.condT ?_
  simp -implicitDefEqProofs [ct1, ct2, ct3, ct4]
  refine condT_intro (fun k8 => ?_) (fun k8 => ?_)
  ·try simp at k8
   obtain ⟨f8, e⟩ := pos_on2 e (by first | simpa using k8 | grind)
   try simp at f8
   have ct9 : (v3).length + (([32] : List UInt8)).length ≤ 9223372036854775807 := by (first | omega | (simp; omega))
   try simp at ct9
   have := spotT_len p0.s (by first | assumption | grind)
   have ct10 : ((v3 ++ ([32] : List UInt8))).length + ((spotT p0.s)).length ≤ 9223372036854775807 := by (first | omega | (simp; omega))
   try simp at ct10
   refine EV.regionG tabOK ?_ -- region 7
   simp (maxSteps := 2000000) -implicitDefEqProofs [ct1, ct2, ct3, ct4, ct9, ct10]
   refine callG_fun (w_rSpotT' p0.s (by first | assumption | grind)) ?_ ?_
   ·first | (simp; done) | (simp [ct1, ct2, ct3, ct4, ct9, ct10]; done)
   simp (maxSteps := 2000000) -implicitDefEqProofs [ct1, ct2, ct3, ct4, ct9, ct10]
   refine EV.seq ?_
   refine EV.regionG tabOK ?_ -- region 8
   simp (maxSteps := 2000000) -implicitDefEqProofs [ct1, ct2, ct3, ct4, ct9, ct10]
   refine EV.ret ?_
   simp only [thenK_ret, blockK_ret, scopeK_ret, bodyK_ret]
   subst e
   refine Fin.pure0 ?_
   first | (simp; done) | (simp <;> grind)
  ·try simp at k8
   obtain ⟨f8, e⟩ := neg_on2 e (by first | simpa using k8 | grind)
   try simp at f8
   refine EV.skip ?_
   simp only [thenK_normal, blockK_normal, scopeK_normal]
   refine EV.seq ?_
   refine EV.regionG tabOK ?_ -- region 8
   simp (maxSteps := 2000000) -implicitDefEqProofs [ct1, ct2, ct3, ct4]
   refine EV.ret ?_
   simp only [thenK_ret, blockK_ret, scopeK_ret, bodyK_ret]
   subst e
   refine Fin.pure0 ?_
   first | (simp; done) | (simp <;> grind)
theorem rValueT_eq (p0 : ValueD) : rValueT p0 = valueT p0 := by
 have h : ∀ (l : List UseD) (a : List UInt8), rValueT_l3 l a = a ++ (l.map fun u => 32 :: useT u).flatten := by
  intro l
  induction l with
  | nil => intro a; simp [rValueT_l3]
  | cons x l ih => intro a; simp [rValueT_l3, ih]
 unfold rValueT valueT
 simp only [bnd, h]
 by_cases h1 : p0.k = 6
 ·simp [h1]
 ·by_cases h2 : p0.k = 7
  ·simp [h2]
  ·by_cases h3 : p0.k = 9
   ·simp [h3]
   ·simp [h1, h2, h3]
theorem w_rValueT' (p0 : ValueD) (h : ValueOK p0) : QC prog 74 [.agg [.i .i64 p0.k, .ro 5 (p0.uses.map useC), .i .i64 p0.s.local_, .ro 1 (p0.s.path.map (fun z => [.i .i64 z])), .i .i64 p0.which, .i .i64 p0.tag]] [] (.s (valueT p0)) [] := by rw [← rValueT_eq p0]; exact w_rValueT p0 h


def rInT (p0 : InD) : (List UInt8) :=
 (if p0.k = 0 then (([108, 105, 118, 101, 32] : List UInt8) ++ (dig p0.s.local_)) else (if p0.k = 1 then (([100, 101, 97, 100, 32] : List UInt8) ++ (dig p0.s.local_)) else (if p0.k = 3 then (if p0.u.move = true then (([100, 114, 111, 112, 32] : List UInt8) ++ (dig p0.s.local_)) else (([101, 110, 100, 32] : List UInt8) ++ (dig p0.s.local_))) else (if p0.k = 2 then (((([115, 101, 116, 32] : List UInt8) ++ (spotT p0.s)) ++ ([32, 61, 32] : List UInt8)) ++ (valueT p0.v)) else (if p0.k = 4 then (([112, 114, 105, 110, 116, 32] : List UInt8) ++ (useT p0.u)) else (if p0.k = 5 then (((((([111, 112, 101, 110, 32] : List UInt8) ++ (spotT p0.s)) ++ ([32] : List UInt8)) ++ (dig p0.v.tag)) ++ ([32] : List UInt8)) ++ (dig p0.v.s.local_)) else ([63] : List UInt8)))))))
set_option maxHeartbeats 40000000 in
theorem w_rInT (p0 : InD) (h : InOK p0) : QC prog 40 [.agg [.i .i64 p0.k, .i .i64 p0.at_, .i .i64 p0.s.local_, .ro 1 (p0.s.path.map (fun z => [.i .i64 z])), .i .i64 p0.v.k, .ro 5 (p0.v.uses.map useC), .i .i64 p0.v.s.local_, .ro 1 (p0.v.s.path.map (fun z => [.i .i64 z])), .i .i64 p0.v.which, .i .i64 p0.v.tag, .b p0.u.num, .i .i64 p0.u.n, .b p0.u.move, .i .i64 p0.u.s.local_, .ro 1 (p0.u.s.path.map (fun z => [.i .i64 z]))]] [] (.s (rInT p0)) [] := by
 refine QC.of_body tabOK func40 rfl (by kernel_rfl) ?_
 simp only [f40]
 generalize e : rInT p0 = R
 unfold rInT at e
 obtain ⟨⟨h1, h2, h3⟩, h4, h5⟩ := h
 have hs : SpotOK p0.s := ⟨h1, h2, h3⟩
 obtain ⟨g1, g2, g3, g4, g5, ⟨g6, g7⟩⟩ := h4
 have hv : ValueOK p0.v := ⟨g1, g2, g3, g4, g5, ⟨g6, g7⟩⟩
 refine EV.seq ?_
 refine EV.regionG tabOK ?_ -- region 0
 simp (maxSteps := 2000000) -implicitDefEqProofs
 refine EV.seq ?_
 refine EV.seq ?_
 refine EV.regionG tabOK ?_ -- region 1
 simp (maxSteps := 2000000) -implicitDefEqProofs
 refine EV.block ?_
 refine EV.seq ?_
 refine EV.regionG tabOK ?_ -- region 2
 simp (maxSteps := 2000000) -implicitDefEqProofs
 refine EV.condT ?_
 simp -implicitDefEqProofs
 refine condT_intro (fun k1 => ?_) (fun k1 => ?_)
 ·try simp at k1
  obtain ⟨f1, e⟩ := pos_on2 e (by first | simpa using k1 | grind)
  try simp at f1
  refine EV.seq ?_
  have := dig_len p0.s.local_
  have ct2 : (([108, 105, 118, 101, 32] : List UInt8)).length + ((dig p0.s.local_)).length ≤ 9223372036854775807 := by (first | omega | (simp; omega))
  try simp at ct2
  refine EV.regionG tabOK ?_ -- region 3
  simp (maxSteps := 2000000) -implicitDefEqProofs [ct2]
  refine callG_fun (w_rD' p0.s.local_ (by first | assumption | exact inI64_of (by omega) (by omega))) ?_ ?_
  ·first | (simp; done) | (simp [ct2]; done)
  simp (maxSteps := 2000000) -implicitDefEqProofs [ct2]
  refine EV.ret ?_
  simp only [thenK_ret, blockK_ret, scopeK_ret, bodyK_ret]
  subst e
  refine Fin.pure0 ?_
  first | (simp; done) | (simp <;> grind)
 ·try simp at k1
  obtain ⟨f1, e⟩ := neg_on2 e (by first | simpa using k1 | grind)
  try simp at f1
  refine EV.seq ?_
  refine EV.regionG tabOK ?_ -- region 4
  simp (maxSteps := 2000000) -implicitDefEqProofs
  refine EV.condT ?_
  simp -implicitDefEqProofs
  refine condT_intro (fun k3 => ?_) (fun k3 => ?_)
  ·try simp at k3
   obtain ⟨f3, e⟩ := pos_on2 e (by first | simpa using k3 | grind)
   try simp at f3
   refine EV.seq ?_
   have := dig_len p0.s.local_
   have ct4 : (([100, 101, 97, 100, 32] : List UInt8)).length + ((dig p0.s.local_)).length ≤ 9223372036854775807 := by (first | omega | (simp; omega))
   try simp at ct4
   refine EV.regionG tabOK ?_ -- region 5
   simp (maxSteps := 2000000) -implicitDefEqProofs [ct4]
   refine callG_fun (w_rD' p0.s.local_ (by first | assumption | exact inI64_of (by omega) (by omega))) ?_ ?_
   ·first | (simp; done) | (simp [ct4]; done)
   simp (maxSteps := 2000000) -implicitDefEqProofs [ct4]
   refine EV.ret ?_
   simp only [thenK_ret, blockK_ret, scopeK_ret, bodyK_ret]
   subst e
   refine Fin.pure0 ?_
   first | (simp; done) | (simp <;> grind)
  ·try simp at k3
   obtain ⟨f3, e⟩ := neg_on2 e (by first | simpa using k3 | grind)
   try simp at f3
   refine EV.seq ?_
   refine EV.regionG tabOK ?_ -- region 6
   simp (maxSteps := 2000000) -implicitDefEqProofs
   refine EV.condT ?_
   simp -implicitDefEqProofs
   refine condT_intro (fun k5 => ?_) (fun k5 => ?_)
   ·try simp at k5
    obtain ⟨f5, e⟩ := pos_on2 e (by first | simpa using k5 | grind)
    try simp at f5
    refine EV.seq ?_
    refine EV.seq ?_
    refine EV.regionG tabOK ?_ -- region 7
    simp (maxSteps := 2000000) -implicitDefEqProofs
    refine EV.condT ?_
    simp -implicitDefEqProofs
    refine condT_intro (fun k6 => ?_) (fun k6 => ?_)
    ·try simp at k6
     obtain ⟨f6, e⟩ := pos_on2 e (by first | simpa using k6 | grind)
     try simp at f6
     refine EV.seq ?_
     have := dig_len p0.s.local_
     have ct7 : (([100, 114, 111, 112, 32] : List UInt8)).length + ((dig p0.s.local_)).length ≤ 9223372036854775807 := by (first | omega | (simp; omega))
     try simp at ct7
     refine EV.regionG tabOK ?_ -- region 8
     simp (maxSteps := 2000000) -implicitDefEqProofs [ct7]
     refine callG_fun (w_rD' p0.s.local_ (by first | assumption | exact inI64_of (by omega) (by omega))) ?_ ?_
     ·first | (simp; done) | (simp [ct7]; done)
     simp (maxSteps := 2000000) -implicitDefEqProofs [ct7]
     refine EV.ret ?_
     simp only [thenK_ret, blockK_ret, scopeK_ret, bodyK_ret]
     subst e
     refine Fin.pure0 ?_
     first | (simp; done) | (simp <;> grind)
    ·try simp at k6
     obtain ⟨f6, e⟩ := neg_on2 e (by first | simpa using k6 | grind)
     try simp at f6
     refine EV.skip ?_
     simp only [thenK_normal, blockK_normal, scopeK_normal]
     refine EV.seq ?_
     have := dig_len p0.s.local_
     have ct8 : (([101, 110, 100, 32] : List UInt8)).length + ((dig p0.s.local_)).length ≤ 9223372036854775807 := by (first | omega | (simp; omega))
     try simp at ct8
     refine EV.regionG tabOK ?_ -- region 9
     simp (maxSteps := 2000000) -implicitDefEqProofs [ct8]
     refine callG_fun (w_rD' p0.s.local_ (by first | assumption | exact inI64_of (by omega) (by omega))) ?_ ?_
     ·first | (simp; done) | (simp [ct8]; done)
     simp (maxSteps := 2000000) -implicitDefEqProofs [ct8]
     refine EV.ret ?_
     simp only [thenK_ret, blockK_ret, scopeK_ret, bodyK_ret]
     subst e
     refine Fin.pure0 ?_
     first | (simp; done) | (simp <;> grind)
   ·try simp at k5
    obtain ⟨f5, e⟩ := neg_on2 e (by first | simpa using k5 | grind)
    try simp at f5
    refine EV.seq ?_
    refine EV.regionG tabOK ?_ -- region 10
    simp (maxSteps := 2000000) -implicitDefEqProofs
    refine EV.condT ?_
    simp -implicitDefEqProofs
    refine condT_intro (fun k9 => ?_) (fun k9 => ?_)
    ·try simp at k9
     obtain ⟨f9, e⟩ := pos_on2 e (by first | simpa using k9 | grind)
     try simp at f9
     refine EV.seq ?_
     have := spotT_len p0.s (by first | assumption | grind)
     have ct10 : (([115, 101, 116, 32] : List UInt8)).length + ((spotT p0.s)).length ≤ 9223372036854775807 := by (first | omega | (simp; omega))
     try simp at ct10
     have ct11 : ((([115, 101, 116, 32] : List UInt8) ++ (spotT p0.s))).length + (([32, 61, 32] : List UInt8)).length ≤ 9223372036854775807 := by (first | omega | (simp; omega))
     try simp at ct11
     have := valueT_len p0.v (by first | assumption | grind)
     have ct12 : (((([115, 101, 116, 32] : List UInt8) ++ (spotT p0.s)) ++ ([32, 61, 32] : List UInt8))).length + ((valueT p0.v)).length ≤ 9223372036854775807 := by (first | omega | (simp; omega))
     try simp at ct12
     refine EV.drawG tabOK mixedOK ?_ -- region 11
     simp (maxSteps := 2000000) -implicitDefEqProofs [ct10, ct11, ct12]
     refine callG_fun (w_rSpotT' p0.s (by first | assumption | grind)) ?_ ?_
     ·first | (simp; done) | (simp [ct10, ct11, ct12]; done)
     simp (maxSteps := 2000000) -implicitDefEqProofs [ct10, ct11, ct12]
     refine callG_fun (w_rValueT' p0.v (by first | assumption | grind)) ?_ ?_
     ·first | (simp; done) | (simp [ct10, ct11, ct12]; done)
     simp (maxSteps := 2000000) -implicitDefEqProofs [ct10, ct11, ct12]
     refine And.intro ?_ ?_
     ·first | decide +kernel | (simp -implicitDefEqProofs; decide +kernel) | (split <;> decide +kernel)
     try simp -implicitDefEqProofs
     refine EV.ret ?_
     simp only [thenK_ret, blockK_ret, scopeK_ret, bodyK_ret]
     subst e
     refine Fin.pure0 ?_
     first | (simp; done) | (simp <;> grind)
    ·try simp at k9
     obtain ⟨f9, e⟩ := neg_on2 e (by first | simpa using k9 | grind)
     try simp at f9
     refine EV.seq ?_
     refine EV.regionG tabOK ?_ -- region 12
     simp (maxSteps := 2000000) -implicitDefEqProofs
     refine EV.condT ?_
     simp -implicitDefEqProofs
     refine condT_intro (fun k13 => ?_) (fun k13 => ?_)
     ·try simp at k13
      obtain ⟨f13, e⟩ := pos_on2 e (by first | simpa using k13 | grind)
      try simp at f13
      refine EV.seq ?_
      have := useT_len p0.u (by first | assumption | grind)
      have ct14 : (([112, 114, 105, 110, 116, 32] : List UInt8)).length + ((useT p0.u)).length ≤ 9223372036854775807 := by (first | omega | (simp; omega))
      try simp at ct14
      refine EV.regionG tabOK ?_ -- region 13
      simp (maxSteps := 2000000) -implicitDefEqProofs [ct14]
      refine callG_fun (w_rUseT' p0.u (by first | assumption | grind)) ?_ ?_
      ·first | (simp; done) | (simp [ct14]; done)
      simp (maxSteps := 2000000) -implicitDefEqProofs [ct14]
      refine EV.ret ?_
      simp only [thenK_ret, blockK_ret, scopeK_ret, bodyK_ret]
      subst e
      refine Fin.pure0 ?_
      first | (simp; done) | (simp <;> grind)
     ·try simp at k13
      obtain ⟨f13, e⟩ := neg_on2 e (by first | simpa using k13 | grind)
      try simp at f13
      refine EV.seq ?_
      refine EV.regionG tabOK ?_ -- region 14
      simp (maxSteps := 2000000) -implicitDefEqProofs
      refine EV.condT ?_
      simp -implicitDefEqProofs
      refine condT_intro (fun k15 => ?_) (fun k15 => ?_)
      ·try simp at k15
       obtain ⟨f15, e⟩ := pos_on2 e (by first | simpa using k15 | grind)
       try simp at f15
       refine EV.seq ?_
       have := spotT_len p0.s (by first | assumption | grind)
       have ct16 : (([111, 112, 101, 110, 32] : List UInt8)).length + ((spotT p0.s)).length ≤ 9223372036854775807 := by (first | omega | (simp; omega))
       try simp at ct16
       have ct17 : ((([111, 112, 101, 110, 32] : List UInt8) ++ (spotT p0.s))).length + (([32] : List UInt8)).length ≤ 9223372036854775807 := by (first | omega | (simp; omega))
       try simp at ct17
       have := dig_len p0.v.tag
       have ct18 : (((([111, 112, 101, 110, 32] : List UInt8) ++ (spotT p0.s)) ++ ([32] : List UInt8))).length + ((dig p0.v.tag)).length ≤ 9223372036854775807 := by (first | omega | (simp; omega))
       try simp at ct18
       have ct19 : ((((([111, 112, 101, 110, 32] : List UInt8) ++ (spotT p0.s)) ++ ([32] : List UInt8)) ++ (dig p0.v.tag))).length + (([32] : List UInt8)).length ≤ 9223372036854775807 := by (first | omega | (simp; omega))
       try simp at ct19
       have := dig_len p0.v.s.local_
       have ct20 : (((((([111, 112, 101, 110, 32] : List UInt8) ++ (spotT p0.s)) ++ ([32] : List UInt8)) ++ (dig p0.v.tag)) ++ ([32] : List UInt8))).length + ((dig p0.v.s.local_)).length ≤ 9223372036854775807 := by (first | omega | (simp; omega))
       try simp at ct20
       refine EV.drawG tabOK mixedOK ?_ -- region 15
       simp (maxSteps := 2000000) -implicitDefEqProofs [ct16, ct17, ct18, ct19, ct20]
       refine callG_fun (w_rSpotT' p0.s (by first | assumption | grind)) ?_ ?_
       ·first | (simp; done) | (simp [ct16, ct17, ct18, ct19, ct20]; done)
       simp (maxSteps := 2000000) -implicitDefEqProofs [ct16, ct17, ct18, ct19, ct20]
       refine callG_fun (w_rD' p0.v.tag (by first | assumption | exact inI64_of (by omega) (by omega))) ?_ ?_
       ·first | (simp; done) | (simp [ct16, ct17, ct18, ct19, ct20]; done)
       simp (maxSteps := 2000000) -implicitDefEqProofs [ct16, ct17, ct18, ct19, ct20]
       refine callG_fun (w_rD' p0.v.s.local_ (by first | assumption | exact inI64_of (by omega) (by omega))) ?_ ?_
       ·first | (simp; done) | (simp [ct16, ct17, ct18, ct19, ct20]; done)
       simp (maxSteps := 2000000) -implicitDefEqProofs [ct16, ct17, ct18, ct19, ct20]
       refine And.intro ?_ ?_
       ·first | decide +kernel | (simp -implicitDefEqProofs; decide +kernel) | (split <;> decide +kernel)
       try simp -implicitDefEqProofs
       refine EV.ret ?_
       simp only [thenK_ret, blockK_ret, scopeK_ret, bodyK_ret]
       subst e
       refine Fin.pure0 ?_
       first | (simp; done) | (simp <;> grind)
      ·try simp at k15
       obtain ⟨f15, e⟩ := neg_on2 e (by first | simpa using k15 | grind)
       try simp at f15
       refine EV.skip ?_
       simp only [thenK_normal, blockK_normal, scopeK_normal]
       refine EV.seq ?_
       refine EV.regionG tabOK ?_ -- region 16
       simp (maxSteps := 2000000) -implicitDefEqProofs
       refine EV.ret ?_
       simp only [thenK_ret, blockK_ret, scopeK_ret, bodyK_ret]
       subst e
       refine Fin.pure0 ?_
       first | (simp; done) | (simp <;> grind)
theorem rInT_eq (p0 : InD) : rInT p0 = inT p0 := by
 unfold rInT inT
 simp [bnd]
theorem w_rInT' (p0 : InD) (h : InOK p0) : QC prog 40 [.agg [.i .i64 p0.k, .i .i64 p0.at_, .i .i64 p0.s.local_, .ro 1 (p0.s.path.map (fun z => [.i .i64 z])), .i .i64 p0.v.k, .ro 5 (p0.v.uses.map useC), .i .i64 p0.v.s.local_, .ro 1 (p0.v.s.path.map (fun z => [.i .i64 z])), .i .i64 p0.v.which, .i .i64 p0.v.tag, .b p0.u.num, .i .i64 p0.u.n, .b p0.u.move, .i .i64 p0.u.s.local_, .ro 1 (p0.u.s.path.map (fun z => [.i .i64 z]))]] [] (.s (inT p0)) [] := by rw [← rInT_eq p0]; exact w_rInT p0 h
def rTmT_l21  : List Int → (List UInt8) → (List UInt8)
 | [], a21_0 => a21_0
 | x21 :: xs21, a21_0 => rTmT_l21 xs21 ((a21_0 ++ ([32] : List UInt8)) ++ (dig x21))
def rTmT (p0 : TmD) : (List UInt8) :=
 (Ctl.run ((if p0.k = 0 then .go ([103, 111, 116, 111] : List UInt8) else (if p0.k = 1 then .go (([105, 102, 32] : List UInt8) ++ (useT p0.u)) else (if p0.k = 2 then .go (([109, 97, 116, 99, 104, 32] : List UInt8) ++ (spotT p0.s)) else (if p0.k = 3 then .go (([114, 101, 116, 117, 114, 110, 32] : List UInt8) ++ (useT p0.u)) else (if p0.k = 4 then .go (([121, 105, 101, 108, 100, 32] : List UInt8) ++ (useT p0.u)) else (if p0.k = 5 then .go (((([97, 119, 97, 105, 116, 32] : List UInt8) ++ (spotT p0.s)) ++ ([32] : List UInt8)) ++ (dig p0.v.s.local_)) else (if p0.k = 6 then .go (((([112, 111, 108, 108, 32] : List UInt8) ++ (spotT p0.s)) ++ ([32] : List UInt8)) ++ (dig p0.v.s.local_)) else (if p0.k = 7 then .go (((([119, 97, 105, 116, 32] : List UInt8) ++ (spotT p0.s)) ++ ([32] : List UInt8)) ++ (useT p0.u)) else .ret ([63] : List UInt8))))))))) : Ctl ((List UInt8)) ((List UInt8))) fun (v4 : (List UInt8)) => (bnd (rTmT_l21 p0.to_ v4) fun (v21 : (List UInt8)) => v21))
set_option maxHeartbeats 40000000 in
theorem w_rTmT (p0 : TmD) (h : TmOK p0) : QC prog 41 [.agg [.i .i64 p0.k, .i .i64 p0.at_, .i .i64 p0.s.local_, .ro 1 (p0.s.path.map (fun z => [.i .i64 z])), .i .i64 p0.v.k, .ro 5 (p0.v.uses.map useC), .i .i64 p0.v.s.local_, .ro 1 (p0.v.s.path.map (fun z => [.i .i64 z])), .i .i64 p0.v.which, .i .i64 p0.v.tag, .b p0.u.num, .i .i64 p0.u.n, .b p0.u.move, .i .i64 p0.u.s.local_, .ro 1 (p0.u.s.path.map (fun z => [.i .i64 z])), .ro 1 (p0.to_.map (fun z => [.i .i64 z]))]] [] (.s (rTmT p0)) [] := by
 refine QC.of_body tabOK func41 rfl (by kernel_rfl) ?_
 simp only [f41]
 generalize e : rTmT p0 = R
 unfold rTmT at e
 obtain ⟨h1, h2, h3, h4, h5⟩ := h
 have h0 := h1.1
 refine EV.seq ?_
 refine EV.regionG tabOK ?_ -- region 0
 simp (maxSteps := 2000000) -implicitDefEqProofs
 refine EV.seq ?_
 refine EV.regionG tabOK ?_ -- region 1
 simp (maxSteps := 2000000) -implicitDefEqProofs
 refine EV.seq ?_
 refine EV.seq ?_
 refine EV.regionG tabOK ?_ -- region 2
 simp (maxSteps := 2000000) -implicitDefEqProofs
 obtain ⟨z4, e4, e⟩ := run_split e
 refine EV.nrm (fun v : { v : ((List UInt8)) × (Unit) // z4 = .go v.1 ∧ (fun (v4 : (List UInt8)) => v4.length ≤ 13000) v.1 } => (fun (v4 : (List UInt8)) (g4 : Unit) => (⟨[J, .ptr 0 0 0 0, J, .s v4, J, J, J, J, J, J, J, J, J, J, J, J, J, J, J, J, J, J, J, J, J, J, J, J, J, J, J, J, J, J, J, J, J, J, J, J, J, J, J, J, J, J, J, J, J, J, J, J, J, J, J, J, J, J, J, J, J, J, J, J, J, J, J, J, J, J, J, J, J, J, J, J, J, J, J, J, J, J, J, J, J, J, J], [.arr 0 16 [[.i .i64 p0.k, .i .i64 p0.at_, .i .i64 p0.s.local_, .ro 1 (p0.s.path.map (fun z => [.i .i64 z])), .i .i64 p0.v.k, .ro 5 (p0.v.uses.map useC), .i .i64 p0.v.s.local_, .ro 1 (p0.v.s.path.map (fun z => [.i .i64 z])), .i .i64 p0.v.which, .i .i64 p0.v.tag, .b p0.u.num, .i .i64 p0.u.n, .b p0.u.move, .i .i64 p0.u.s.local_, .ro 1 (p0.u.s.path.map (fun z => [.i .i64 z])), .ro 1 (p0.to_.map (fun z => [.i .i64 z]))]]]⟩ : St)) v.1.1 v.1.2) ?_ ?_
 ·skip
  refine EV.block ?_
  refine EV.seq ?_
  refine EV.regionG tabOK ?_ -- region 4
  simp (maxSteps := 2000000) -implicitDefEqProofs
  refine EV.condT ?_
  simp -implicitDefEqProofs
  refine condT_intro (fun k1 => ?_) (fun k1 => ?_)
  ·try simp at k1
   obtain ⟨f1, e4⟩ := pos_on2 e4 (by first | simpa using k1 | grind)
   try simp at f1
   refine EV.regionG tabOK ?_ -- region 5
   simp (maxSteps := 2000000) -implicitDefEqProofs
   refine ⟨⟨(([103, 111, 116, 111] : List UInt8), ()), e4.symm, by ((try dsimp only); first | omega | assumption | (simp; done) | (simp; omega))⟩, ?_⟩
   try dsimp only
   refine Sub.cutF 1 (by simp) ?_ ?_ <;> simp [List.range_succ, toIdx_range, passed]
  ·try simp at k1
   obtain ⟨f1, e4⟩ := neg_on2 e4 (by first | simpa using k1 | grind)
   try simp at f1
   refine EV.seq ?_
   refine EV.regionG tabOK ?_ -- region 6
   simp (maxSteps := 2000000) -implicitDefEqProofs
   refine EV.condT ?_
   simp -implicitDefEqProofs
   refine condT_intro (fun k2 => ?_) (fun k2 => ?_)
   ·try simp at k2
    obtain ⟨f2, e4⟩ := pos_on2 e4 (by first | simpa using k2 | grind)
    try simp at f2
    have := useT_len p0.u (by first | assumption | grind)
    have ct3 : (([105, 102, 32] : List UInt8)).length + ((useT p0.u)).length ≤ 9223372036854775807 := by (first | omega | (simp; omega))
    try simp at ct3
    refine EV.regionG tabOK ?_ -- region 7
    simp (maxSteps := 2000000) -implicitDefEqProofs [ct3]
    refine callG_fun (w_rUseT' p0.u (by first | assumption | grind)) ?_ ?_
    ·first | (simp; done) | (simp [ct3]; done)
    simp (maxSteps := 2000000) -implicitDefEqProofs [ct3]
    refine ⟨⟨((([105, 102, 32] : List UInt8) ++ (useT p0.u)), ()), e4.symm, by ((try dsimp only); first | omega | assumption | (simp; done) | (simp; omega))⟩, ?_⟩
    try dsimp only
    refine Sub.cutF 1 (by simp) ?_ ?_ <;> simp [List.range_succ, toIdx_range, passed, ct3]
   ·try simp at k2
    obtain ⟨f2, e4⟩ := neg_on2 e4 (by first | simpa using k2 | grind)
    try simp at f2
    refine EV.seq ?_
    refine EV.regionG tabOK ?_ -- region 8
    simp (maxSteps := 2000000) -implicitDefEqProofs
    refine EV.condT ?_
    simp -implicitDefEqProofs
    refine condT_intro (fun k4 => ?_) (fun k4 => ?_)
    ·try simp at k4
     obtain ⟨f4, e4⟩ := pos_on2 e4 (by first | simpa using k4 | grind)
     try simp at f4
     have := spotT_len p0.s (by first | assumption | grind)
     have ct5 : (([109, 97, 116, 99, 104, 32] : List UInt8)).length + ((spotT p0.s)).length ≤ 9223372036854775807 := by (first | omega | (simp; omega))
     try simp at ct5
     refine EV.regionG tabOK ?_ -- region 9
     simp (maxSteps := 2000000) -implicitDefEqProofs [ct5]
     refine callG_fun (w_rSpotT' p0.s (by first | assumption | grind)) ?_ ?_
     ·first | (simp; done) | (simp [ct5]; done)
     simp (maxSteps := 2000000) -implicitDefEqProofs [ct5]
     refine ⟨⟨((([109, 97, 116, 99, 104, 32] : List UInt8) ++ (spotT p0.s)), ()), e4.symm, by ((try dsimp only); first | omega | assumption | (simp; done) | (simp; omega))⟩, ?_⟩
     try dsimp only
     refine Sub.cutF 1 (by simp) ?_ ?_ <;> simp [List.range_succ, toIdx_range, passed, ct5]
    ·try simp at k4
     obtain ⟨f4, e4⟩ := neg_on2 e4 (by first | simpa using k4 | grind)
     try simp at f4
     refine EV.seq ?_
     refine EV.regionG tabOK ?_ -- region 10
     simp (maxSteps := 2000000) -implicitDefEqProofs
     refine EV.condT ?_
     simp -implicitDefEqProofs
     refine condT_intro (fun k6 => ?_) (fun k6 => ?_)
     ·try simp at k6
      obtain ⟨f6, e4⟩ := pos_on2 e4 (by first | simpa using k6 | grind)
      try simp at f6
      have := useT_len p0.u (by first | assumption | grind)
      have ct7 : (([114, 101, 116, 117, 114, 110, 32] : List UInt8)).length + ((useT p0.u)).length ≤ 9223372036854775807 := by (first | omega | (simp; omega))
      try simp at ct7
      refine EV.regionG tabOK ?_ -- region 11
      simp (maxSteps := 2000000) -implicitDefEqProofs [ct7]
      refine callG_fun (w_rUseT' p0.u (by first | assumption | grind)) ?_ ?_
      ·first | (simp; done) | (simp [ct7]; done)
      simp (maxSteps := 2000000) -implicitDefEqProofs [ct7]
      refine ⟨⟨((([114, 101, 116, 117, 114, 110, 32] : List UInt8) ++ (useT p0.u)), ()), e4.symm, by ((try dsimp only); first | omega | assumption | (simp; done) | (simp; omega))⟩, ?_⟩
      try dsimp only
      refine Sub.cutF 1 (by simp) ?_ ?_ <;> simp [List.range_succ, toIdx_range, passed, ct7]
     ·try simp at k6
      obtain ⟨f6, e4⟩ := neg_on2 e4 (by first | simpa using k6 | grind)
      try simp at f6
      refine EV.seq ?_
      refine EV.regionG tabOK ?_ -- region 12
      simp (maxSteps := 2000000) -implicitDefEqProofs
      refine EV.condT ?_
      simp -implicitDefEqProofs
      refine condT_intro (fun k8 => ?_) (fun k8 => ?_)
      ·try simp at k8
       obtain ⟨f8, e4⟩ := pos_on2 e4 (by first | simpa using k8 | grind)
       try simp at f8
       have := useT_len p0.u (by first | assumption | grind)
       have ct9 : (([121, 105, 101, 108, 100, 32] : List UInt8)).length + ((useT p0.u)).length ≤ 9223372036854775807 := by (first | omega | (simp; omega))
       try simp at ct9
       refine EV.regionG tabOK ?_ -- region 13
       simp (maxSteps := 2000000) -implicitDefEqProofs [ct9]
       refine callG_fun (w_rUseT' p0.u (by first | assumption | grind)) ?_ ?_
       ·first | (simp; done) | (simp [ct9]; done)
       simp (maxSteps := 2000000) -implicitDefEqProofs [ct9]
       refine ⟨⟨((([121, 105, 101, 108, 100, 32] : List UInt8) ++ (useT p0.u)), ()), e4.symm, by ((try dsimp only); first | omega | assumption | (simp; done) | (simp; omega))⟩, ?_⟩
       try dsimp only
       refine Sub.cutF 1 (by simp) ?_ ?_ <;> simp [List.range_succ, toIdx_range, passed, ct9]
      ·try simp at k8
       obtain ⟨f8, e4⟩ := neg_on2 e4 (by first | simpa using k8 | grind)
       try simp at f8
       refine EV.seq ?_
       refine EV.regionG tabOK ?_ -- region 14
       simp (maxSteps := 2000000) -implicitDefEqProofs
       refine EV.condT ?_
       simp -implicitDefEqProofs
       refine condT_intro (fun k10 => ?_) (fun k10 => ?_)
       ·try simp at k10
        obtain ⟨f10, e4⟩ := pos_on2 e4 (by first | simpa using k10 | grind)
        try simp at f10
        have := spotT_len p0.s (by first | assumption | grind)
        have ct11 : (([97, 119, 97, 105, 116, 32] : List UInt8)).length + ((spotT p0.s)).length ≤ 9223372036854775807 := by (first | omega | (simp; omega))
        try simp at ct11
        have ct12 : ((([97, 119, 97, 105, 116, 32] : List UInt8) ++ (spotT p0.s))).length + (([32] : List UInt8)).length ≤ 9223372036854775807 := by (first | omega | (simp; omega))
        try simp at ct12
        have := dig_len p0.v.s.local_
        have ct13 : (((([97, 119, 97, 105, 116, 32] : List UInt8) ++ (spotT p0.s)) ++ ([32] : List UInt8))).length + ((dig p0.v.s.local_)).length ≤ 9223372036854775807 := by (first | omega | (simp; omega))
        try simp at ct13
        refine EV.drawG tabOK mixedOK ?_ -- region 15
        simp (maxSteps := 2000000) -implicitDefEqProofs [ct11, ct12, ct13]
        refine callG_fun (w_rSpotT' p0.s (by first | assumption | grind)) ?_ ?_
        ·first | (simp; done) | (simp [ct11, ct12, ct13]; done)
        simp (maxSteps := 2000000) -implicitDefEqProofs [ct11, ct12, ct13]
        refine callG_fun (w_rD' p0.v.s.local_ (by first | assumption | exact inI64_of (by omega) (by omega))) ?_ ?_
        ·first | (simp; done) | (simp [ct11, ct12, ct13]; done)
        simp (maxSteps := 2000000) -implicitDefEqProofs [ct11, ct12, ct13]
        refine And.intro ?_ ?_
        ·first | decide +kernel | (simp -implicitDefEqProofs; decide +kernel) | (split <;> decide +kernel)
        try simp -implicitDefEqProofs
        refine ⟨⟨((((([97, 119, 97, 105, 116, 32] : List UInt8) ++ (spotT p0.s)) ++ ([32] : List UInt8)) ++ (dig p0.v.s.local_)), ()), e4.symm, by ((try dsimp only); first | omega | assumption | (simp; done) | (simp; omega))⟩, ?_⟩
        try dsimp only
        refine Sub.cutF 1 (by simp) ?_ ?_ <;> simp [List.range_succ, toIdx_range, passed, ct11, ct12, ct13]
       ·try simp at k10
        obtain ⟨f10, e4⟩ := neg_on2 e4 (by first | simpa using k10 | grind)
        try simp at f10
        refine EV.seq ?_
        refine EV.regionG tabOK ?_ -- region 16
        simp (maxSteps := 2000000) -implicitDefEqProofs
        refine EV.condT ?_
        simp -implicitDefEqProofs
        refine condT_intro (fun k14 => ?_) (fun k14 => ?_)
        ·try simp at k14
         obtain ⟨f14, e4⟩ := pos_on2 e4 (by first | simpa using k14 | grind)
         try simp at f14
         have := spotT_len p0.s (by first | assumption | grind)
         have ct15 : (([112, 111, 108, 108, 32] : List UInt8)).length + ((spotT p0.s)).length ≤ 9223372036854775807 := by (first | omega | (simp; omega))
         try simp at ct15
         have ct16 : ((([112, 111, 108, 108, 32] : List UInt8) ++ (spotT p0.s))).length + (([32] : List UInt8)).length ≤ 9223372036854775807 := by (first | omega | (simp; omega))
         try simp at ct16
         have := dig_len p0.v.s.local_
         have ct17 : (((([112, 111, 108, 108, 32] : List UInt8) ++ (spotT p0.s)) ++ ([32] : List UInt8))).length + ((dig p0.v.s.local_)).length ≤ 9223372036854775807 := by (first | omega | (simp; omega))
         try simp at ct17
         refine EV.drawG tabOK mixedOK ?_ -- region 17
         simp (maxSteps := 2000000) -implicitDefEqProofs [ct15, ct16, ct17]
         refine callG_fun (w_rSpotT' p0.s (by first | assumption | grind)) ?_ ?_
         ·first | (simp; done) | (simp [ct15, ct16, ct17]; done)
         simp (maxSteps := 2000000) -implicitDefEqProofs [ct15, ct16, ct17]
         refine callG_fun (w_rD' p0.v.s.local_ (by first | assumption | exact inI64_of (by omega) (by omega))) ?_ ?_
         ·first | (simp; done) | (simp [ct15, ct16, ct17]; done)
         simp (maxSteps := 2000000) -implicitDefEqProofs [ct15, ct16, ct17]
         refine And.intro ?_ ?_
         ·first | decide +kernel | (simp -implicitDefEqProofs; decide +kernel) | (split <;> decide +kernel)
         try simp -implicitDefEqProofs
         refine ⟨⟨((((([112, 111, 108, 108, 32] : List UInt8) ++ (spotT p0.s)) ++ ([32] : List UInt8)) ++ (dig p0.v.s.local_)), ()), e4.symm, by ((try dsimp only); first | omega | assumption | (simp; done) | (simp; omega))⟩, ?_⟩
         try dsimp only
         refine Sub.cutF 1 (by simp) ?_ ?_ <;> simp [List.range_succ, toIdx_range, passed, ct15, ct16, ct17]
        ·try simp at k14
         obtain ⟨f14, e4⟩ := neg_on2 e4 (by first | simpa using k14 | grind)
         try simp at f14
         refine EV.seq ?_
         refine EV.regionG tabOK ?_ -- region 18
         simp (maxSteps := 2000000) -implicitDefEqProofs
         refine EV.condT ?_
         simp -implicitDefEqProofs
         refine condT_intro (fun k18 => ?_) (fun k18 => ?_)
         ·try simp at k18
          obtain ⟨f18, e4⟩ := pos_on2 e4 (by first | simpa using k18 | grind)
          try simp at f18
          have := spotT_len p0.s (by first | assumption | grind)
          have ct19 : (([119, 97, 105, 116, 32] : List UInt8)).length + ((spotT p0.s)).length ≤ 9223372036854775807 := by (first | omega | (simp; omega))
          try simp at ct19
          have ct20 : ((([119, 97, 105, 116, 32] : List UInt8) ++ (spotT p0.s))).length + (([32] : List UInt8)).length ≤ 9223372036854775807 := by (first | omega | (simp; omega))
          try simp at ct20
          have := useT_len p0.u (by first | assumption | grind)
          have ct21 : (((([119, 97, 105, 116, 32] : List UInt8) ++ (spotT p0.s)) ++ ([32] : List UInt8))).length + ((useT p0.u)).length ≤ 9223372036854775807 := by (first | omega | (simp; omega))
          try simp at ct21
          refine EV.drawG tabOK mixedOK ?_ -- region 19
          simp (maxSteps := 2000000) -implicitDefEqProofs [ct19, ct20, ct21]
          refine callG_fun (w_rSpotT' p0.s (by first | assumption | grind)) ?_ ?_
          ·first | (simp; done) | (simp [ct19, ct20, ct21]; done)
          simp (maxSteps := 2000000) -implicitDefEqProofs [ct19, ct20, ct21]
          refine callG_fun (w_rUseT' p0.u (by first | assumption | grind)) ?_ ?_
          ·first | (simp; done) | (simp [ct19, ct20, ct21]; done)
          simp (maxSteps := 2000000) -implicitDefEqProofs [ct19, ct20, ct21]
          refine And.intro ?_ ?_
          ·first | decide +kernel | (simp -implicitDefEqProofs; decide +kernel) | (split <;> decide +kernel)
          try simp -implicitDefEqProofs
          refine ⟨⟨((((([119, 97, 105, 116, 32] : List UInt8) ++ (spotT p0.s)) ++ ([32] : List UInt8)) ++ (useT p0.u)), ()), e4.symm, by ((try dsimp only); first | omega | assumption | (simp; done) | (simp; omega))⟩, ?_⟩
          try dsimp only
          refine Sub.cutF 1 (by simp) ?_ ?_ <;> simp [List.range_succ, toIdx_range, passed, ct19, ct20, ct21]
         ·try simp at k18
          obtain ⟨f18, e4⟩ := neg_on2 e4 (by first | simpa using k18 | grind)
          try simp at f18
          refine EV.seq ?_
          refine EV.regionG tabOK ?_ -- region 3
          simp (maxSteps := 2000000) -implicitDefEqProofs
          refine EV.ret ?_
          simp only [thenK_ret, blockK_ret, scopeK_ret, bodyK_ret]
          replace e := run_back e e4
          subst e
          refine Fin.pure0 ?_
          first | (simp; done) | (simp <;> grind)
 ·skip
  rintro ⟨⟨v4, g4⟩, e4, p4⟩
  simp only [thenK_normal, blockK_normal, scopeK_normal, bodyK_normal]
  try dsimp only at p4
  replace e := run_on e e4
  try dsimp only at e
  refine EV.seq ?_
  refine EV.seq ?_
  refine EV.regionG tabOK ?_ -- region 20
  simp (maxSteps := 2000000) -implicitDefEqProofs
  obtain ⟨z21, e21, e⟩ := bnd_split e
  refine EV.nrm (fun v : { v : ((List UInt8)) × (Unit) // z21 = v.1 ∧ (fun (v21 : (List UInt8)) => v21.length ≤ 20000) v.1 } => (fun (v21 : (List UInt8)) (g21 : Unit) => (⟨[J, J, J, .s v21, J, J, J, J, J, J, J, J, J, J, J, J, J, J, J, J, J, J, J, J, J, J, J, J, J, J, J, J, J, J, J, J, J, J, J, J, J, J, J, J, J, J, J, J, J, J, J, J, J, J, J, J, J, J, J, J, J, J, J, J, J, J, J, J, J, J, J, J, J, J, J, J, J, J, J, J, J, J, J, J, J, J, J], []⟩ : St)) v.1.1 v.1.2) ?_ ?_
  ·skip
   refine EV.block ?_
   refine EV.loopB (fun x : { x : Nat × (List UInt8) // x.1 ≤ p0.to_.length ∧ rTmT_l21 (p0.to_.drop x.1) x.2 = z21 ∧ (fun (j21 : Nat) (a21_0 : List UInt8) => a21_0.length ≤ 13000 + j21 * 22) x.1 x.2 } => (fun (j21 : Nat) (a21_0 : List UInt8) => (⟨[J, .ptr 0 0 0 0, J, .s a21_0, .i .i64 (j21 : Int), J, J, J, J, J, J, J, J, J, J, J, J, J, J, J, J, J, J, J, J, J, J, J, J, J, J, J, J, J, J, J, J, J, J, J, J, J, J, J, J, J, J, J, J, J, J, J, J, J, J, J, J, J, J, J, J, J, J, J, J, J, J, J, J, J, J, J, J, J, J, J, J, J, J, J, J, J, J, J, J, J, J], [.arr 0 16 [[.i .i64 p0.k, .i .i64 p0.at_, .i .i64 p0.s.local_, .ro 1 (p0.s.path.map (fun z => [.i .i64 z])), .i .i64 p0.v.k, .ro 5 (p0.v.uses.map useC), .i .i64 p0.v.s.local_, .ro 1 (p0.v.s.path.map (fun z => [.i .i64 z])), .i .i64 p0.v.which, .i .i64 p0.v.tag, .b p0.u.num, .i .i64 p0.u.n, .b p0.u.move, .i .i64 p0.u.s.local_, .ro 1 (p0.u.s.path.map (fun z => [.i .i64 z])), .ro 1 (p0.to_.map (fun z => [.i .i64 z]))]]]⟩ : St)) x.1.1 x.1.2) (fun x => p0.to_.length - x.1.1) ⟨(0, v4), Nat.zero_le _, e21, by ((try dsimp only); first | omega | assumption | (simp; done) | (simp; assumption) | (simp; omega) | (simp at *; omega) | simp_all)⟩ ?_ ?_
   ·skip
    try dsimp only
    try dsimp only
    refine Sub.cutF 1 (by simp) ?_ ?_ <;> simp [List.range_succ, toIdx_range, passed]
   ·skip
    rintro ⟨⟨j21, a21_0⟩, hi21, e21, q21⟩
    simp only at hi21 e21 ⊢
    try dsimp only at q21
    refine EV.seq ?_
    refine EV.seq ?_
    refine EV.regionG tabOK ?_ -- region 21
    simp (maxSteps := 2000000) -implicitDefEqProofs
    refine EV.room 72 (by rfl) (fun mj21 => ?_)
    simp at mj21
    refine EV.condT ?_
    simp -implicitDefEqProofs
    refine condT_intro (fun k22 => ?_) (fun k22 => ?_)
    ·try simp at k22
     have u22 : j21 < p0.to_.length := by omega
     obtain ⟨x21, hx21⟩ : ∃ z, p0.to_[j21] = z := ⟨_, rfl⟩
     have mx21 : x21 ∈ p0.to_ := by rw [← hx21]; exact List.getElem_mem _
     have hv21 := h5 x21 mx21
     rw [List.drop_eq_getElem_cons u22, hx21, rTmT_l21] at e21
     refine EV.skip ?_
     simp only [thenK_normal, blockK_normal, scopeK_normal]
     refine EV.seq ?_
     refine EV.block ?_
     have ct23 : (a21_0).length + (([32] : List UInt8)).length ≤ 9223372036854775807 := by (first | omega | (simp; omega))
     try simp at ct23
     have := dig_len x21
     have ct24 : ((a21_0 ++ ([32] : List UInt8))).length + ((dig x21)).length ≤ 9223372036854775807 := by (first | omega | (simp; omega))
     try simp at ct24
     refine EV.regionG tabOK ?_ -- region 23
     simp (maxSteps := 2000000) -implicitDefEqProofs [k22, u22, hx21, ct23, ct24]
     refine callG_fun (w_rD' x21 (by first | assumption | exact inI64_of (by omega) (by omega))) ?_ ?_
     ·first | (simp; done) | (simp [k22, u22, hx21, ct23, ct24]; done)
     simp (maxSteps := 2000000) -implicitDefEqProofs [k22, u22, hx21, ct23, ct24]
     refine EV.regionG tabOK ?_ -- region 22
     simp (maxSteps := 2000000) -implicitDefEqProofs [k22, u22, hx21, ct23, ct24]
     have w21 : IntKind.i64.wrap ((j21 : Int) + 1) = (j21 : Int) + 1 := wrap_in _ (by omega) (by omega)
     refine ⟨⟨(j21 + 1, ((a21_0 ++ ([32] : List UInt8)) ++ (dig x21))), by omega, e21, by ((try dsimp only); first | omega | assumption | (simp; done) | (simp; assumption) | (simp; omega) | (simp at *; omega) | simp_all)⟩, by dsimp only; omega, ?_⟩
     try dsimp only
     refine Sub.cutF 1 (by simp) ?_ ?_ <;> simp [List.range_succ, toIdx_range, passed, k22, u22, hx21, ct23, ct24, w21]
    ·try simp at k22
     have d22 : p0.to_.drop j21 = [] := List.drop_eq_nil_of_le (by omega)
     rw [d22, rTmT_l21] at e21
     refine EV.exit ?_
     simp -implicitDefEqProofs
     refine ⟨⟨(a21_0, ()), e21.symm, by ((try dsimp only); first | omega | assumption | (simp; done) | (simp; assumption) | (simp; omega) | (simp at *; omega) | simp_all)⟩, ?_⟩
     try dsimp only
     refine Sub.cutF 0 (by simp) ?_ ?_ <;> simp [List.range_succ, toIdx_range, passed]
  ·skip
   rintro ⟨⟨v21, g21⟩, e21, p21⟩
   simp only [thenK_normal, blockK_normal, scopeK_normal, bodyK_normal]
   try dsimp only at p21
   replace e := bnd_on e e21
   try dsimp only at e
   refine EV.seq ?_
   refine EV.regionG tabOK ?_ -- region 24
   simp (maxSteps := 2000000) -implicitDefEqProofs
   refine EV.ret ?_
   simp only [thenK_ret, blockK_ret, scopeK_ret, bodyK_ret]
   subst e
   refine Fin.pure0 ?_
   first | (simp; done) | (simp <;> grind)
theorem rTmT_eq (p0 : TmD) : rTmT p0 = tmT p0 := by
 have h : ∀ (l : List Int) (a : List UInt8), rTmT_l21 l a = a ++ (l.map fun k => 32 :: dig k).flatten := by
  intro l
  induction l with
  | nil => intro a; simp [rTmT_l21]
  | cons x l ih => intro a; simp [rTmT_l21, ih]
 unfold rTmT tmT tmW
 simp only [bnd, h]
 by_cases h0 : p0.k = 0
 ·simp [h0, Ctl.run, Function.comp_def]
 by_cases h1 : p0.k = 1
 ·simp [h1, Ctl.run, Function.comp_def]
 by_cases h2 : p0.k = 2
 ·simp [h2, Ctl.run, Function.comp_def]
 by_cases h3 : p0.k = 3
 ·simp [h3, Ctl.run, Function.comp_def]
 by_cases h4 : p0.k = 4
 ·simp [h4, Ctl.run, Function.comp_def]
 by_cases h5 : p0.k = 5
 ·simp [h5, Ctl.run, Function.comp_def]
 by_cases h6 : p0.k = 6
 ·simp [h6, Ctl.run, Function.comp_def]
 by_cases h7 : p0.k = 7
 ·simp [h7, Ctl.run, Function.comp_def]
 rw [if_neg (show ¬ (0 ≤ p0.k ∧ p0.k ≤ 7) by omega)]
 simp [h0, h1, h2, h3, h4, h5, h6, h7, Ctl.run]
theorem w_rTmT' (p0 : TmD) (h : TmOK p0) : QC prog 41 [.agg [.i .i64 p0.k, .i .i64 p0.at_, .i .i64 p0.s.local_, .ro 1 (p0.s.path.map (fun z => [.i .i64 z])), .i .i64 p0.v.k, .ro 5 (p0.v.uses.map useC), .i .i64 p0.v.s.local_, .ro 1 (p0.v.s.path.map (fun z => [.i .i64 z])), .i .i64 p0.v.which, .i .i64 p0.v.tag, .b p0.u.num, .i .i64 p0.u.n, .b p0.u.move, .i .i64 p0.u.s.local_, .ro 1 (p0.u.s.path.map (fun z => [.i .i64 z])), .ro 1 (p0.to_.map (fun z => [.i .i64 z]))]] [] (.s (tmT p0)) [] := by rw [← rTmT_eq p0]; exact w_rTmT p0 h

def rTypeB (p0 : TyD) : (List UInt8) :=
 (if p0.k = 1 then ([105, 110, 116] : List UInt8) else (bnd (if p0.k = 2 then true else (decide (p0.k = 3))) fun (v6 : Bool) => (if v6 = true then p0.name else (if p0.k = 7 then (([99, 111, 32] : List UInt8) ++ p0.name) else (if p0.k = 4 then (if (p0.l.length : Int) = 1 then (bnd (p0.l.getD 0 default) fun (y12_2 : TyD) => (([98, 111, 120, 32] : List UInt8) ++ (tyT y12_2))) else ([63] : List UInt8)) else (if p0.k = 5 then (if (p0.l.length : Int) = 1 then (bnd (p0.l.getD 0 default) fun (y15_2 : TyD) => (([38] : List UInt8) ++ (tyT y15_2))) else ([63] : List UInt8)) else (if p0.k = 6 then (if (p0.l.length : Int) = 1 then (bnd (p0.l.getD 0 default) fun (y18_2 : TyD) => (([38, 109, 117, 116, 32] : List UInt8) ++ (tyT y18_2))) else ([63] : List UInt8)) else ([63] : List UInt8))))))))
set_option maxHeartbeats 40000000 in
theorem w_rTypeB (p0 : TyD) (hz : tyN p0 ≤ 1048576) (H : ∀ u : TyD, tyN u < tyN p0 → QC prog 39 [.agg [.i .i64 u.k, .s u.name, .ro 3 (u.l.map tyC)]] [] (.s (tyT u)) []) : QC prog 39 [.agg [.i .i64 p0.k, .s p0.name, .ro 3 (p0.l.map tyC)]] [] (.s (rTypeB p0)) [] := by
 refine QC.of_body tabOK func39 rfl (by kernel_rfl) ?_
 simp only [f39]
 generalize e : rTypeB p0 = R
 unfold rTypeB at e
 have hn := tyN_eq p0
 refine EV.seq ?_
 refine EV.regionG tabOK ?_ -- region 0
 simp (maxSteps := 2000000) -implicitDefEqProofs
 refine EV.seq ?_
 refine EV.regionG tabOK ?_ -- region 1
 simp (maxSteps := 2000000) -implicitDefEqProofs
 refine EV.seq ?_
 refine EV.seq ?_
 refine EV.regionG tabOK ?_ -- region 2
 simp (maxSteps := 2000000) -implicitDefEqProofs
 refine EV.block ?_
 refine EV.seq ?_
 refine EV.regionG tabOK ?_ -- region 3
 simp (maxSteps := 2000000) -implicitDefEqProofs
 refine EV.condT ?_
 simp -implicitDefEqProofs
 refine condT_intro (fun k1 => ?_) (fun k1 => ?_)
 ·try simp at k1
  obtain ⟨f1, e⟩ := pos_on2 e (by first | simpa using k1 | grind)
  try simp at f1
  refine EV.seq ?_
  refine EV.regionG tabOK ?_ -- region 4
  simp (maxSteps := 2000000) -implicitDefEqProofs
  refine EV.ret ?_
  simp only [thenK_ret, blockK_ret, scopeK_ret, bodyK_ret]
  subst e
  refine Fin.pure0 ?_
  first | (simp; done) | (simp <;> grind)
 ·try simp at k1
  obtain ⟨f1, e⟩ := neg_on2 e (by first | simpa using k1 | grind)
  try simp at f1
  refine EV.seq ?_
  refine EV.seq ?_
  refine EV.regionG tabOK ?_ -- region 5
  simp (maxSteps := 2000000) -implicitDefEqProofs
  obtain ⟨z6, e6, e⟩ := bnd_split e
  refine EV.nrm (fun v : { v : (Bool) × (Unit) // z6 = v.1 } => (fun (v6 : Bool) (g6 : Unit) => (⟨[J, .ptr 0 0 0 0, J, .b (decide ((p0.l.length : Int) = 1)), J, J, J, J, J, .i .i64 p0.k, J, J, .b v6, J, J, J, J, J, J, J, J, J, J, J, J, J, J, J, J, J, J, J, J, J, J, J, J, J, J, J, J, J, J, J, J, J, J, J, J], [.arr 0 3 [[.i .i64 p0.k, .s p0.name, .ro 3 (p0.l.map tyC)]]]⟩ : St)) v.1.1 v.1.2) ?_ ?_
  ·skip
   refine EV.condT ?_
   simp -implicitDefEqProofs
   refine condT_intro (fun k2 => ?_) (fun k2 => ?_)
   ·try simp at k2
    obtain ⟨f2, e6⟩ := pos_on2 e6 (by first | simpa using k2 | grind)
    try simp at f2
    refine EV.skip ?_
    simp only [thenK_normal, blockK_normal, scopeK_normal]
    refine ⟨⟨(true, ()), e6.symm⟩, ?_⟩
    try dsimp only
    refine Sub.cutF 1 (by simp) ?_ ?_ <;> simp [List.range_succ, toIdx_range, passed]
   ·try simp at k2
    obtain ⟨f2, e6⟩ := neg_on2 e6 (by first | simpa using k2 | grind)
    try simp at f2
    refine EV.regionG tabOK ?_ -- region 6
    simp (maxSteps := 2000000) -implicitDefEqProofs
    refine ⟨⟨((decide (p0.k = 3)), ()), e6.symm⟩, ?_⟩
    try dsimp only
    refine Sub.cutF 1 (by simp) ?_ ?_ <;> simp [List.range_succ, toIdx_range, passed]
  ·skip
   rintro ⟨⟨v6, g6⟩, e6⟩
   simp only [thenK_normal, blockK_normal, scopeK_normal, bodyK_normal]
   replace e := bnd_on e e6
   try dsimp only at e
   refine EV.condT ?_
   simp -implicitDefEqProofs
   refine condT_intro (fun k3 => ?_) (fun k3 => ?_)
   ·try simp at k3
    obtain ⟨f3, e⟩ := pos_on2 e (by first | simpa using k3 | grind)
    try simp at f3
    refine EV.seq ?_
    refine EV.regionG tabOK ?_ -- region 7
    simp (maxSteps := 2000000) -implicitDefEqProofs
    refine EV.ret ?_
    simp only [thenK_ret, blockK_ret, scopeK_ret, bodyK_ret]
    subst e
    refine Fin.pure0 ?_
    first | (simp; done) | (simp <;> grind)
   ·try simp at k3
    obtain ⟨f3, e⟩ := neg_on2 e (by first | simpa using k3 | grind)
    try simp at f3
    refine EV.seq ?_
    refine EV.regionG tabOK ?_ -- region 8
    simp (maxSteps := 2000000) -implicitDefEqProofs
    refine EV.condT ?_
    simp -implicitDefEqProofs
    refine condT_intro (fun k4 => ?_) (fun k4 => ?_)
    ·try simp at k4
     obtain ⟨f4, e⟩ := pos_on2 e (by first | simpa using k4 | grind)
     try simp at f4
     refine EV.seq ?_
     have ct5 : (([99, 111, 32] : List UInt8)).length + (p0.name).length ≤ 9223372036854775807 := by (first | omega | (simp; omega))
     try simp at ct5
     refine EV.regionG tabOK ?_ -- region 9
     simp (maxSteps := 2000000) -implicitDefEqProofs [ct5]
     refine EV.ret ?_
     simp only [thenK_ret, blockK_ret, scopeK_ret, bodyK_ret]
     subst e
     refine Fin.pure0 ?_
     first | (simp; done) | (simp <;> grind)
    ·try simp at k4
     obtain ⟨f4, e⟩ := neg_on2 e (by first | simpa using k4 | grind)
     try simp at f4
     refine EV.seq ?_
     refine EV.regionG tabOK ?_ -- region 10
     simp (maxSteps := 2000000) -implicitDefEqProofs
     refine EV.condT ?_
     simp -implicitDefEqProofs
     refine condT_intro (fun k6 => ?_) (fun k6 => ?_)
     ·try simp at k6
      obtain ⟨f6, e⟩ := pos_on2 e (by first | simpa using k6 | grind)
      try simp at f6
      refine EV.seq ?_
      refine EV.regionG tabOK ?_ -- region 11
      simp (maxSteps := 2000000) -implicitDefEqProofs
      refine EV.condT ?_
      simp -implicitDefEqProofs
      refine condT_intro (fun k7 => ?_) (fun k7 => ?_)
      ·try simp at k7
       obtain ⟨f7, e⟩ := pos_on2 e (by first | simpa using k7 | grind)
       try simp at f7
       refine EV.seq ?_
       obtain ⟨y12_2, gy12_2⟩ : ∃ z, (p0.l.getD 0 default) = z := ⟨_, rfl⟩
       replace e := bnd_on e gy12_2
       try dsimp only at e
       have b8 : 0 ≤ 0 ∧ 0 < (p0.l.length : Int) := by omega
       have c8 : 0 < p0.l.length := by omega
       have hy12_2 : p0.l[0] = y12_2 := by rw [← gy12_2, List.getD_eq_getElem?_getD, List.getElem?_eq_getElem c8]; rfl
       have my12_2 : y12_2 ∈ p0.l := by rw [← hy12_2]; exact List.getElem_mem _
       have := tyT_len y12_2
       have := tyN_mem (u := y12_2) (t := p0) (by assumption)
       have ct9 : (([98, 111, 120, 32] : List UInt8)).length + ((tyT y12_2)).length ≤ 9223372036854775807 := by (first | omega | (simp; omega))
       try simp at ct9
       refine EV.regionG tabOK ?_ -- region 12
       simp (maxSteps := 2000000) -implicitDefEqProofs [b8, c8, hy12_2, ct9]
       refine callG_fun (H y12_2 (by have := tyN_mem (by assumption); omega)) ?_ ?_
       ·first | (simp; done) | (simp [b8, c8, hy12_2, ct9]; done)
       simp (maxSteps := 2000000) -implicitDefEqProofs [b8, c8, hy12_2, ct9]
       refine EV.ret ?_
       simp only [thenK_ret, blockK_ret, scopeK_ret, bodyK_ret]
       subst e
       refine Fin.pure0 ?_
       first | (simp; done) | (simp <;> grind)
      ·try simp at k7
       obtain ⟨f7, e⟩ := neg_on2 e (by first | simpa using k7 | grind)
       try simp at f7
       refine EV.skip ?_
       simp only [thenK_normal, blockK_normal, scopeK_normal]
       refine EV.seq ?_
       refine EV.regionG tabOK ?_ -- region 19
       simp (maxSteps := 2000000) -implicitDefEqProofs
       refine EV.ret ?_
       simp only [thenK_ret, blockK_ret, scopeK_ret, bodyK_ret]
       subst e
       refine Fin.pure0 ?_
       first | (simp; done) | (simp <;> grind)
     ·try simp at k6
      obtain ⟨f6, e⟩ := neg_on2 e (by first | simpa using k6 | grind)
      try simp at f6
      refine EV.seq ?_
      refine EV.regionG tabOK ?_ -- region 13
      simp (maxSteps := 2000000) -implicitDefEqProofs
      refine EV.condT ?_
      simp -implicitDefEqProofs
      refine condT_intro (fun k10 => ?_) (fun k10 => ?_)
      ·try simp at k10
       obtain ⟨f10, e⟩ := pos_on2 e (by first | simpa using k10 | grind)
       try simp at f10
       refine EV.seq ?_
       refine EV.regionG tabOK ?_ -- region 14
       simp (maxSteps := 2000000) -implicitDefEqProofs
       refine EV.condT ?_
       simp -implicitDefEqProofs
       refine condT_intro (fun k11 => ?_) (fun k11 => ?_)
       ·try simp at k11
        obtain ⟨f11, e⟩ := pos_on2 e (by first | simpa using k11 | grind)
        try simp at f11
        refine EV.seq ?_
        obtain ⟨y15_2, gy15_2⟩ : ∃ z, (p0.l.getD 0 default) = z := ⟨_, rfl⟩
        replace e := bnd_on e gy15_2
        try dsimp only at e
        have b12 : 0 ≤ 0 ∧ 0 < (p0.l.length : Int) := by omega
        have c12 : 0 < p0.l.length := by omega
        have hy15_2 : p0.l[0] = y15_2 := by rw [← gy15_2, List.getD_eq_getElem?_getD, List.getElem?_eq_getElem c12]; rfl
        have my15_2 : y15_2 ∈ p0.l := by rw [← hy15_2]; exact List.getElem_mem _
        have := tyT_len y15_2
        have := tyN_mem (u := y15_2) (t := p0) (by assumption)
        have ct13 : (([38] : List UInt8)).length + ((tyT y15_2)).length ≤ 9223372036854775807 := by (first | omega | (simp; omega))
        try simp at ct13
        refine EV.regionG tabOK ?_ -- region 15
        simp (maxSteps := 2000000) -implicitDefEqProofs [b12, c12, hy15_2, ct13]
        refine callG_fun (H y15_2 (by have := tyN_mem (by assumption); omega)) ?_ ?_
        ·first | (simp; done) | (simp [b12, c12, hy15_2, ct13]; done)
        simp (maxSteps := 2000000) -implicitDefEqProofs [b12, c12, hy15_2, ct13]
        refine EV.ret ?_
        simp only [thenK_ret, blockK_ret, scopeK_ret, bodyK_ret]
        subst e
        refine Fin.pure0 ?_
        first | (simp; done) | (simp <;> grind)
       ·try simp at k11
        obtain ⟨f11, e⟩ := neg_on2 e (by first | simpa using k11 | grind)
        try simp at f11
        refine EV.skip ?_
        simp only [thenK_normal, blockK_normal, scopeK_normal]
        refine EV.seq ?_
        refine EV.regionG tabOK ?_ -- region 19
        simp (maxSteps := 2000000) -implicitDefEqProofs
        refine EV.ret ?_
        simp only [thenK_ret, blockK_ret, scopeK_ret, bodyK_ret]
        subst e
        refine Fin.pure0 ?_
        first | (simp; done) | (simp <;> grind)
      ·try simp at k10
       obtain ⟨f10, e⟩ := neg_on2 e (by first | simpa using k10 | grind)
       try simp at f10
       refine EV.seq ?_
       refine EV.regionG tabOK ?_ -- region 16
       simp (maxSteps := 2000000) -implicitDefEqProofs
       refine EV.condT ?_
       simp -implicitDefEqProofs
       refine condT_intro (fun k14 => ?_) (fun k14 => ?_)
       ·try simp at k14
        obtain ⟨f14, e⟩ := pos_on2 e (by first | simpa using k14 | grind)
        try simp at f14
        refine EV.seq ?_
        refine EV.regionG tabOK ?_ -- region 17
        simp (maxSteps := 2000000) -implicitDefEqProofs
        refine EV.condT ?_
        simp -implicitDefEqProofs
        refine condT_intro (fun k15 => ?_) (fun k15 => ?_)
        ·try simp at k15
         obtain ⟨f15, e⟩ := pos_on2 e (by first | simpa using k15 | grind)
         try simp at f15
         refine EV.seq ?_
         obtain ⟨y18_2, gy18_2⟩ : ∃ z, (p0.l.getD 0 default) = z := ⟨_, rfl⟩
         replace e := bnd_on e gy18_2
         try dsimp only at e
         have b16 : 0 ≤ 0 ∧ 0 < (p0.l.length : Int) := by omega
         have c16 : 0 < p0.l.length := by omega
         have hy18_2 : p0.l[0] = y18_2 := by rw [← gy18_2, List.getD_eq_getElem?_getD, List.getElem?_eq_getElem c16]; rfl
         have my18_2 : y18_2 ∈ p0.l := by rw [← hy18_2]; exact List.getElem_mem _
         have := tyT_len y18_2
         have := tyN_mem (u := y18_2) (t := p0) (by assumption)
         have ct17 : (([38, 109, 117, 116, 32] : List UInt8)).length + ((tyT y18_2)).length ≤ 9223372036854775807 := by (first | omega | (simp; omega))
         try simp at ct17
         refine EV.regionG tabOK ?_ -- region 18
         simp (maxSteps := 2000000) -implicitDefEqProofs [b16, c16, hy18_2, ct17]
         refine callG_fun (H y18_2 (by have := tyN_mem (by assumption); omega)) ?_ ?_
         ·first | (simp; done) | (simp [b16, c16, hy18_2, ct17]; done)
         simp (maxSteps := 2000000) -implicitDefEqProofs [b16, c16, hy18_2, ct17]
         refine EV.ret ?_
         simp only [thenK_ret, blockK_ret, scopeK_ret, bodyK_ret]
         subst e
         refine Fin.pure0 ?_
         first | (simp; done) | (simp <;> grind)
        ·try simp at k15
         obtain ⟨f15, e⟩ := neg_on2 e (by first | simpa using k15 | grind)
         try simp at f15
         refine EV.skip ?_
         simp only [thenK_normal, blockK_normal, scopeK_normal]
         refine EV.seq ?_
         refine EV.regionG tabOK ?_ -- region 19
         simp (maxSteps := 2000000) -implicitDefEqProofs
         refine EV.ret ?_
         simp only [thenK_ret, blockK_ret, scopeK_ret, bodyK_ret]
         subst e
         refine Fin.pure0 ?_
         first | (simp; done) | (simp <;> grind)
       ·try simp at k14
        obtain ⟨f14, e⟩ := neg_on2 e (by first | simpa using k14 | grind)
        try simp at f14
        refine EV.skip ?_
        simp only [thenK_normal, blockK_normal, scopeK_normal]
        refine EV.seq ?_
        refine EV.regionG tabOK ?_ -- region 19
        simp (maxSteps := 2000000) -implicitDefEqProofs
        refine EV.ret ?_
        simp only [thenK_ret, blockK_ret, scopeK_ret, bodyK_ret]
        subst e
        refine Fin.pure0 ?_
        first | (simp; done) | (simp <;> grind)

theorem rTypeB_eq (p0 : TyD) : rTypeB p0 = tyT p0 := by
 obtain ⟨k, nm, l⟩ := p0
 by_cases hl : l.length = 1
 ·match l, hl with
  | [x], _ =>
   rw [tyT_one]
   unfold rTypeB
   by_cases h1 : k = 1
   ·subst h1; simp [Ctl.run, bnd]
   by_cases h2 : k = 2
   ·subst h2; simp [Ctl.run, bnd]
   by_cases h3 : k = 3
   ·subst h3; simp [Ctl.run, bnd]
   by_cases h7 : k = 7
   ·subst h7; simp [Ctl.run, bnd]
   by_cases h4 : k = 4
   ·subst h4; simp [Ctl.run, bnd]
   by_cases h5 : k = 5
   ·subst h5; simp [Ctl.run, bnd]
   by_cases h6 : k = 6
   ·subst h6; simp [Ctl.run, bnd]
   simp [h1, h2, h3, h7, h4, h5, h6, Ctl.run, bnd]
 ·rw [tyT_not _ _ _ hl]
  have hl2 : ¬ ((l.length : Int) = 1) := by omega
  unfold rTypeB
  by_cases h1 : k = 1
  ·subst h1; simp [Ctl.run, bnd]
  by_cases h2 : k = 2
  ·subst h2; simp [Ctl.run, bnd]
  by_cases h3 : k = 3
  ·subst h3; simp [Ctl.run, bnd]
  by_cases h7 : k = 7
  ·subst h7; simp [Ctl.run, bnd]
  by_cases h4 : k = 4
  ·subst h4; simp [Ctl.run, bnd, hl2]
  by_cases h5 : k = 5
  ·subst h5; simp [Ctl.run, bnd, hl2]
  by_cases h6 : k = 6
  ·subst h6; simp [Ctl.run, bnd, hl2]
  simp [h1, h2, h3, h7, h4, h5, h6, Ctl.run, bnd]
theorem w_rType : ∀ (m : Nat) (p0 : TyD), tyN p0 ≤ m → m ≤ 1048576 → QC prog 39 [.agg [.i .i64 p0.k, .s p0.name, .ro 3 (p0.l.map tyC)]] [] (.s (tyT p0)) []
 | m, p0, h1, h2 => by
  rw [← rTypeB_eq]
  exact w_rTypeB p0 (by omega) fun u hu => w_rType (m - 1) u (by omega) (by omega)
 termination_by m p0 => tyN p0
def rTextB_l3  : List LocalD → Nat → (List UInt8) → (List UInt8)
 | [], _, a3_0 => a3_0
 | x3 :: xs3, j3, a3_0 => rTextB_l3 xs3 (j3 + 1) (((((((a3_0 ++ ([9] : List UInt8)) ++ (dig (j3 : Int))) ++ ([32] : List UInt8)) ++ x3.name) ++ ([32] : List UInt8)) ++ (tyT x3.ty)) ++ ([10] : List UInt8))
def rTextB_l11  : List InD → (List UInt8) → (List UInt8)
 | [], a11_0 => a11_0
 | x11 :: xs11, a11_0 => rTextB_l11 xs11 (((a11_0 ++ ([9] : List UInt8)) ++ (inT x11)) ++ ([10] : List UInt8))
def rTextB_l7  : List BlockD → Nat → (List UInt8) → (List UInt8)
 | [], _, a7_0 => a7_0
 | x7 :: xs7, j7, a7_0 => (bnd (rTextB_l11 x7.ins (((a7_0 ++ ([98, 108, 111, 99, 107, 32] : List UInt8)) ++ (dig (j7 : Int))) ++ ([10] : List UInt8))) fun (v11 : (List UInt8)) => rTextB_l7 xs7 (j7 + 1) (((v11 ++ ([9] : List UInt8)) ++ (tmT x7.end_)) ++ ([10] : List UInt8)))
def rTextB (p0 : BodyD) : (List UInt8) :=
 (bnd (rTextB_l3 p0.locals 0 (((p0.name ++ ([32] : List UInt8)) ++ (dig p0.params)) ++ ([10] : List UInt8))) fun (v3 : (List UInt8)) => (bnd (rTextB_l7 p0.blocks 0 v3) fun (v7 : (List UInt8)) => v7))
set_option maxHeartbeats 40000000 in
theorem w_rTextB (p0 : BodyD) (h : BodyOK p0) : QC prog 16 [.agg [.s p0.name, .i .i64 p0.params, .ro 4 (p0.locals.map localC), .ro 17 (p0.blocks.map blockC)]] [] (.s (rTextB p0)) [] := by
 refine QC.of_body tabOK func16 rfl (by kernel_rfl) ?_
 simp only [f16]
 generalize e : rTextB p0 = R
 unfold rTextB at e
 have h1 := h.nm
 have h2 := h.pr
 have h3 := h.ll
 have h4 := h.bl
 refine EV.seq ?_
 refine EV.regionG tabOK ?_ -- region 0
 simp (maxSteps := 2000000) -implicitDefEqProofs
 refine EV.seq ?_
 have ct1 : (p0.name).length + (([32] : List UInt8)).length ≤ 9223372036854775807 := by (first | omega | (simp; omega))
 try simp at ct1
 have := dig_len p0.params
 have ct2 : ((p0.name ++ ([32] : List UInt8))).length + ((dig p0.params)).length ≤ 9223372036854775807 := by (first | omega | (simp; omega))
 try simp at ct2
 have ct3 : (((p0.name ++ ([32] : List UInt8)) ++ (dig p0.params))).length + (([10] : List UInt8)).length ≤ 9223372036854775807 := by (first | omega | (simp; omega))
 try simp at ct3
 refine EV.drawG tabOK mixedOK ?_ -- region 1
 simp (maxSteps := 2000000) -implicitDefEqProofs [ct1, ct2, ct3]
 refine callG_fun (w_rD' p0.params (by first | assumption | exact inI64_of (by omega) (by omega))) ?_ ?_
 ·first | (simp; done) | (simp [ct1, ct2, ct3]; done)
 simp (maxSteps := 2000000) -implicitDefEqProofs [ct1, ct2, ct3]
 refine And.intro ?_ ?_
 ·first | decide +kernel | (simp -implicitDefEqProofs; decide +kernel) | (split <;> decide +kernel)
 try simp -implicitDefEqProofs
 refine EV.seq ?_
 refine EV.seq ?_
 refine EV.regionG tabOK ?_ -- region 2
 simp (maxSteps := 2000000) -implicitDefEqProofs [ct1, ct2, ct3]
 obtain ⟨z3, e3, e⟩ := bnd_split e
 refine EV.nrm (fun v : { v : ((List UInt8)) × (Unit) // z3 = v.1 ∧ (fun (v3 : (List UInt8)) => v3.length ≤ 2000000000) v.1 } => (fun (v3 : (List UInt8)) (g3 : Unit) => (⟨[J, .ptr 0 0 0 0, J, .s v3, J, J, J, J, J, J, J, J, J, J, J, J, J, J, J, J, J, J, J, J, J, J, J, J, J, J, J, J, J, J, J, J, J, J, J, J, J, J, J, J, J, J, J, J, J, J, J, J, J, J, J, J, J, J, J, J, J, J, J, J, J, J, J, J, J, J, J, J, J, J, J, J, J, J, J, J, J, J, J, J, J, J, J, J, J, J, J, J, J, J, J], [.arr 0 4 [[.s p0.name, .i .i64 p0.params, .ro 4 (p0.locals.map localC), .ro 17 (p0.blocks.map blockC)]]]⟩ : St)) v.1.1 v.1.2) ?_ ?_
 ·skip
  refine EV.block ?_
  refine EV.loopB (fun x : { x : Nat × (List UInt8) // x.1 ≤ p0.locals.length ∧ rTextB_l3 (p0.locals.drop x.1) x.1 x.2 = z3 ∧ (fun (j3 : Nat) (a3_0 : List UInt8) => a3_0.length ≤ 1100000 + j3 * 7000000) x.1 x.2 } => (fun (j3 : Nat) (a3_0 : List UInt8) => (⟨[J, .ptr 0 0 0 0, J, .s a3_0, .i .i64 (j3 : Int), J, J, J, J, J, J, J, J, J, J, J, J, J, J, J, J, J, J, J, J, J, J, J, J, J, J, J, J, J, J, J, J, J, J, J, J, J, J, J, J, J, J, J, J, J, J, J, J, J, J, J, J, J, J, J, J, J, J, J, J, J, J, J, J, J, J, J, J, J, J, J, J, J, J, J, J, J, J, J, J, J, J, J, J, J, J, J, J, J, J], [.arr 0 4 [[.s p0.name, .i .i64 p0.params, .ro 4 (p0.locals.map localC), .ro 17 (p0.blocks.map blockC)]]]⟩ : St)) x.1.1 x.1.2) (fun x => p0.locals.length - x.1.1) ⟨(0, (((p0.name ++ ([32] : List UInt8)) ++ (dig p0.params)) ++ ([10] : List UInt8))), Nat.zero_le _, e3, by ((try dsimp only); first | omega | assumption | (simp; done) | (simp; assumption) | (simp; omega) | (simp at *; omega) | simp_all)⟩ ?_ ?_
  ·skip
   try dsimp only
   try dsimp only
   refine Sub.cutF 1 (by simp) ?_ ?_ <;> simp [List.range_succ, toIdx_range, passed, ct1, ct2, ct3]
  ·skip
   rintro ⟨⟨j3, a3_0⟩, hi3, e3, q3⟩
   simp only at hi3 e3 ⊢
   try dsimp only at q3
   refine EV.seq ?_
   refine EV.seq ?_
   refine EV.regionG tabOK ?_ -- region 3
   simp (maxSteps := 2000000) -implicitDefEqProofs [ct1, ct2, ct3]
   refine EV.room 17 (by rfl) (fun mj3 => ?_)
   simp at mj3
   refine EV.condT ?_
   simp -implicitDefEqProofs [ct1, ct2, ct3]
   refine condT_intro (fun k4 => ?_) (fun k4 => ?_)
   ·try simp at k4
    have u4 : j3 < p0.locals.length := by omega
    obtain ⟨x3, hx3⟩ : ∃ z, p0.locals[j3] = z := ⟨_, rfl⟩
    have mx3 : x3 ∈ p0.locals := by rw [← hx3]; exact List.getElem_mem _
    obtain ⟨q1, q2⟩ := h.lo x3 mx3
    rw [List.drop_eq_getElem_cons u4, hx3, rTextB_l3] at e3
    refine EV.skip ?_
    simp only [thenK_normal, blockK_normal, scopeK_normal]
    refine EV.seq ?_
    refine EV.block ?_
    have ct5 : (a3_0).length + (([9] : List UInt8)).length ≤ 9223372036854775807 := by (first | omega | (simp; omega))
    try simp at ct5
    have := dig_len (j3 : Int)
    have ct6 : ((a3_0 ++ ([9] : List UInt8))).length + ((dig (j3 : Int))).length ≤ 9223372036854775807 := by (first | omega | (simp; omega))
    try simp at ct6
    have ct7 : (((a3_0 ++ ([9] : List UInt8)) ++ (dig (j3 : Int)))).length + (([32] : List UInt8)).length ≤ 9223372036854775807 := by (first | omega | (simp; omega))
    try simp at ct7
    have ct8 : ((((a3_0 ++ ([9] : List UInt8)) ++ (dig (j3 : Int))) ++ ([32] : List UInt8))).length + (x3.name).length ≤ 9223372036854775807 := by (first | omega | (simp; omega))
    try simp at ct8
    have ct9 : (((((a3_0 ++ ([9] : List UInt8)) ++ (dig (j3 : Int))) ++ ([32] : List UInt8)) ++ x3.name)).length + (([32] : List UInt8)).length ≤ 9223372036854775807 := by (first | omega | (simp; omega))
    try simp at ct9
    have := tyT_len x3.ty
    have ct10 : ((((((a3_0 ++ ([9] : List UInt8)) ++ (dig (j3 : Int))) ++ ([32] : List UInt8)) ++ x3.name) ++ ([32] : List UInt8))).length + ((tyT x3.ty)).length ≤ 9223372036854775807 := by (first | omega | (simp; omega))
    try simp at ct10
    have ct11 : (((((((a3_0 ++ ([9] : List UInt8)) ++ (dig (j3 : Int))) ++ ([32] : List UInt8)) ++ x3.name) ++ ([32] : List UInt8)) ++ (tyT x3.ty))).length + (([10] : List UInt8)).length ≤ 9223372036854775807 := by (first | omega | (simp; omega))
    try simp at ct11
    refine EV.drawG tabOK mixedOK ?_ -- region 5
    simp (maxSteps := 2000000) -implicitDefEqProofs [ct1, ct2, ct3, k4, u4, hx3, ct5, ct6, ct7, ct8, ct9, ct10, ct11]
    refine callG_fun (w_rD' (j3 : Int) (by first | assumption | exact inI64_of (by omega) (by omega))) ?_ ?_
    ·first | (simp; done) | (simp [ct1, ct2, ct3, k4, u4, hx3, ct5, ct6, ct7, ct8, ct9, ct10, ct11]; done)
    simp (maxSteps := 2000000) -implicitDefEqProofs [ct1, ct2, ct3, k4, u4, hx3, ct5, ct6, ct7, ct8, ct9, ct10, ct11]
    refine callG_fun (w_rType 1048576 x3.ty (by first | assumption | omega) (Nat.le_refl _)) ?_ ?_
    ·first | (simp; done) | (simp [ct1, ct2, ct3, k4, u4, hx3, ct5, ct6, ct7, ct8, ct9, ct10, ct11]; done)
    simp (maxSteps := 2000000) -implicitDefEqProofs [ct1, ct2, ct3, k4, u4, hx3, ct5, ct6, ct7, ct8, ct9, ct10, ct11]
    refine And.intro ?_ ?_
    ·first | decide +kernel | (simp -implicitDefEqProofs; decide +kernel) | (split <;> decide +kernel)
    try simp -implicitDefEqProofs
    refine EV.regionG tabOK ?_ -- region 4
    simp (maxSteps := 2000000) -implicitDefEqProofs [ct1, ct2, ct3, k4, u4, hx3, ct5, ct6, ct7, ct8, ct9, ct10, ct11]
    have w3 : IntKind.i64.wrap ((j3 : Int) + 1) = (j3 : Int) + 1 := wrap_in _ (by omega) (by omega)
    refine ⟨⟨(j3 + 1, (((((((a3_0 ++ ([9] : List UInt8)) ++ (dig (j3 : Int))) ++ ([32] : List UInt8)) ++ x3.name) ++ ([32] : List UInt8)) ++ (tyT x3.ty)) ++ ([10] : List UInt8))), by omega, e3, by ((try dsimp only); first | omega | assumption | (simp; done) | (simp; assumption) | (simp; omega) | (simp at *; omega) | simp_all)⟩, by dsimp only; omega, ?_⟩
    try dsimp only
    refine Sub.cutF 1 (by simp) ?_ ?_ <;> simp [List.range_succ, toIdx_range, passed, ct1, ct2, ct3, k4, u4, hx3, ct5, ct6, ct7, ct8, ct9, ct10, ct11, w3]
   ·try simp at k4
    have d4 : p0.locals.drop j3 = [] := List.drop_eq_nil_of_le (by omega)
    rw [d4, rTextB_l3] at e3
    refine EV.exit ?_
    simp -implicitDefEqProofs
    refine ⟨⟨(a3_0, ()), e3.symm, by ((try dsimp only); first | omega | assumption | (simp; done) | (simp; assumption) | (simp; omega) | (simp at *; omega) | simp_all)⟩, ?_⟩
    try dsimp only
    refine Sub.cutF 1 (by simp) ?_ ?_ <;> simp [List.range_succ, toIdx_range, passed, ct1, ct2, ct3]
 ·skip
  rintro ⟨⟨v3, g3⟩, e3, p3⟩
  simp only [thenK_normal, blockK_normal, scopeK_normal, bodyK_normal]
  try dsimp only at p3
  replace e := bnd_on e e3
  try dsimp only at e
  refine EV.seq ?_
  refine EV.seq ?_
  refine EV.regionG tabOK ?_ -- region 6
  simp (maxSteps := 2000000) -implicitDefEqProofs [ct1, ct2, ct3]
  obtain ⟨z7, e7, e⟩ := bnd_split e
  refine EV.nrm (fun v : { v : ((List UInt8)) × (Unit) // z7 = v.1 ∧ (fun (v7 : (List UInt8)) => v7.length ≤ 200000000000) v.1 } => (fun (v7 : (List UInt8)) (g7 : Unit) => (⟨[J, J, J, .s v7, J, J, J, J, J, J, J, J, J, J, J, J, J, J, J, J, J, J, J, J, J, J, J, J, J, J, J, J, J, J, J, J, J, J, J, J, J, J, J, J, J, J, J, J, J, J, J, J, J, J, J, J, J, J, J, J, J, J, J, J, J, J, J, J, J, J, J, J, J, J, J, J, J, J, J, J, J, J, J, J, J, J, J, J, J, J, J, J, J, J, J], []⟩ : St)) v.1.1 v.1.2) ?_ ?_
  ·skip
   refine EV.block ?_
   refine EV.loopB (fun x : { x : Nat × (List UInt8) // x.1 ≤ p0.blocks.length ∧ rTextB_l7 (p0.blocks.drop x.1) x.1 x.2 = z7 ∧ (fun (j7 : Nat) (a7_0 : List UInt8) => a7_0.length ≤ 2000000000 + j7 * 430000000) x.1 x.2 } => (fun (j7 : Nat) (a7_0 : List UInt8) => (⟨[J, .ptr 0 0 0 0, J, .s a7_0, J, .i .i64 (j7 : Int), J, J, J, J, J, J, J, J, J, J, J, J, J, J, J, J, J, J, J, J, J, J, J, J, J, J, J, J, J, J, J, J, J, J, J, J, J, J, J, J, J, J, J, J, J, J, J, J, J, J, J, J, J, J, J, J, J, J, J, J, J, J, J, J, J, J, J, J, J, J, J, J, J, J, J, J, J, J, J, J, J, J, J, J, J, J, J, J, J], [.arr 0 4 [[.s p0.name, .i .i64 p0.params, .ro 4 (p0.locals.map localC), .ro 17 (p0.blocks.map blockC)]]]⟩ : St)) x.1.1 x.1.2) (fun x => p0.blocks.length - x.1.1) ⟨(0, v3), Nat.zero_le _, e7, by ((try dsimp only); first | omega | assumption | (simp; done) | (simp; assumption) | (simp; omega) | (simp at *; omega) | simp_all)⟩ ?_ ?_
   ·skip
    try dsimp only
    try dsimp only
    refine Sub.cutF 1 (by simp) ?_ ?_ <;> simp [List.range_succ, toIdx_range, passed, ct1, ct2, ct3]
   ·skip
    rintro ⟨⟨j7, a7_0⟩, hi7, e7, q7⟩
    simp only at hi7 e7 ⊢
    try dsimp only at q7
    refine EV.seq ?_
    refine EV.seq ?_
    refine EV.regionG tabOK ?_ -- region 7
    simp (maxSteps := 2000000) -implicitDefEqProofs [ct1, ct2, ct3]
    refine EV.room 47 (by rfl) (fun mj7 => ?_)
    simp at mj7
    refine EV.condT ?_
    simp -implicitDefEqProofs [ct1, ct2, ct3]
    refine condT_intro (fun k12 => ?_) (fun k12 => ?_)
    ·try simp at k12
     have u12 : j7 < p0.blocks.length := by omega
     obtain ⟨x7, hx7⟩ : ∃ z, p0.blocks[j7] = z := ⟨_, rfl⟩
     have mx7 : x7 ∈ p0.blocks := by rw [← hx7]; exact List.getElem_mem _
     obtain ⟨q3, q4, q5⟩ := h.bo x7 mx7
     rw [List.drop_eq_getElem_cons u12, hx7, rTextB_l7] at e7
     refine EV.skip ?_
     simp only [thenK_normal, blockK_normal, scopeK_normal]
     refine EV.seq ?_
     refine EV.block ?_
     refine EV.seq ?_
     have ct13 : (a7_0).length + (([98, 108, 111, 99, 107, 32] : List UInt8)).length ≤ 9223372036854775807 := by (first | omega | (simp; omega))
     try simp at ct13
     have := dig_len (j7 : Int)
     have ct14 : ((a7_0 ++ ([98, 108, 111, 99, 107, 32] : List UInt8))).length + ((dig (j7 : Int))).length ≤ 9223372036854775807 := by (first | omega | (simp; omega))
     try simp at ct14
     have ct15 : (((a7_0 ++ ([98, 108, 111, 99, 107, 32] : List UInt8)) ++ (dig (j7 : Int)))).length + (([10] : List UInt8)).length ≤ 9223372036854775807 := by (first | omega | (simp; omega))
     try simp at ct15
     refine EV.regionG tabOK ?_ -- region 9
     simp (maxSteps := 2000000) -implicitDefEqProofs [ct1, ct2, ct3, k12, u12, hx7, ct13, ct14, ct15]
     refine callG_fun (w_rD' (j7 : Int) (by first | assumption | exact inI64_of (by omega) (by omega))) ?_ ?_
     ·first | (simp; done) | (simp [ct1, ct2, ct3, k12, u12, hx7, ct13, ct14, ct15]; done)
     simp (maxSteps := 2000000) -implicitDefEqProofs [ct1, ct2, ct3, k12, u12, hx7, ct13, ct14, ct15]
     refine EV.seq ?_
     refine EV.seq ?_
     refine EV.regionG tabOK ?_ -- region 10
     simp (maxSteps := 2000000) -implicitDefEqProofs [ct1, ct2, ct3, k12, u12, hx7, ct13, ct14, ct15]
     obtain ⟨z11, e11, e7⟩ := bnd_split e7
     refine EV.nrm (fun v : { v : ((List UInt8)) × (Unit) // z11 = v.1 ∧ (fun (v11 : (List UInt8)) => v11.length ≤ a7_0.length + 30 + 250 * 1700010) v.1 } => (fun (v11 : (List UInt8)) (g11 : Unit) => (⟨[J, .ptr 0 0 0 0, J, .s v11, J, .i .i64 (j7 : Int), J, J, J, J, J, J, J, J, J, J, J, J, J, J, J, J, J, J, J, J, J, J, J, J, J, J, J, J, J, J, J, J, J, J, J, J, J, J, J, J, J, J, J, J, J, J, J, J, J, J, J, J, J, J, J, J, J, J, J, J, J, J, J, J, J, J, J, J, J, J, J, J, J, J, J, J, J, J, J, J, J, J, J, J, J, J, J, J, J], [.arr 0 4 [[.s p0.name, .i .i64 p0.params, .ro 4 (p0.locals.map localC), .ro 17 (p0.blocks.map blockC)]]]⟩ : St)) v.1.1 v.1.2) ?_ ?_
     ·skip
      refine EV.block ?_
      refine EV.loopB (fun x : { x : Nat × (List UInt8) // x.1 ≤ x7.ins.length ∧ rTextB_l11 (x7.ins.drop x.1) x.2 = z11 ∧ (fun (j11 : Nat) (a11_0 : List UInt8) => a11_0.length ≤ a7_0.length + 30 + j11 * 1700010) x.1 x.2 } => (fun (j11 : Nat) (a11_0 : List UInt8) => (⟨[J, .ptr 0 0 0 0, J, .s a11_0, J, .i .i64 (j7 : Int), .i .i64 (j11 : Int), J, J, J, J, J, J, J, J, J, J, J, J, J, J, J, J, J, J, J, J, J, J, J, J, J, J, J, J, J, J, J, J, J, J, J, J, J, J, J, J, J, J, J, J, J, J, J, J, J, J, J, J, J, J, J, J, J, J, J, J, J, J, J, J, J, J, J, J, J, J, J, J, J, J, J, J, J, J, J, J, J, J, J, J, J, J, J, J], [.arr 0 4 [[.s p0.name, .i .i64 p0.params, .ro 4 (p0.locals.map localC), .ro 17 (p0.blocks.map blockC)]]]⟩ : St)) x.1.1 x.1.2) (fun x => x7.ins.length - x.1.1) ⟨(0, (((a7_0 ++ ([98, 108, 111, 99, 107, 32] : List UInt8)) ++ (dig (j7 : Int))) ++ ([10] : List UInt8))), Nat.zero_le _, e11, by ((try dsimp only); first | omega | assumption | (simp; done) | (simp; assumption) | (simp; omega) | (simp at *; omega) | simp_all)⟩ ?_ ?_
      ·skip
       try dsimp only
       try dsimp only
       refine Sub.cutF 1 (by simp) ?_ ?_ <;> simp [List.range_succ, toIdx_range, passed, ct1, ct2, ct3, k12, u12, hx7, ct13, ct14, ct15]
      ·skip
       rintro ⟨⟨j11, a11_0⟩, hi11, e11, q11⟩
       simp only at hi11 e11 ⊢
       try dsimp only at q11
       refine EV.seq ?_
       refine EV.seq ?_
       refine EV.regionG tabOK ?_ -- region 11
       simp (maxSteps := 2000000) -implicitDefEqProofs [ct1, ct2, ct3, k12, u12, hx7, ct13, ct14, ct15]
       refine EV.room 64 (by rfl) (fun mj11 => ?_)
       simp at mj11
       refine EV.condT ?_
       simp -implicitDefEqProofs [ct1, ct2, ct3, k12, u12, hx7, ct13, ct14, ct15]
       refine condT_intro (fun k16 => ?_) (fun k16 => ?_)
       ·try simp at k16
        have u16 : j11 < x7.ins.length := by omega
        obtain ⟨x11, hx11⟩ : ∃ z, x7.ins[j11] = z := ⟨_, rfl⟩
        have mx11 : x11 ∈ x7.ins := by rw [← hx11]; exact List.getElem_mem _
        have q6 := q4 x11 mx11
        rw [List.drop_eq_getElem_cons u16, hx11, rTextB_l11] at e11
        refine EV.skip ?_
        simp only [thenK_normal, blockK_normal, scopeK_normal]
        refine EV.seq ?_
        refine EV.block ?_
        have ct17 : (a11_0).length + (([9] : List UInt8)).length ≤ 9223372036854775807 := by (first | omega | (simp; omega))
        try simp at ct17
        have := inT_len x11 (by first | assumption | grind)
        have ct18 : ((a11_0 ++ ([9] : List UInt8))).length + ((inT x11)).length ≤ 9223372036854775807 := by (first | omega | (simp; omega))
        try simp at ct18
        have ct19 : (((a11_0 ++ ([9] : List UInt8)) ++ (inT x11))).length + (([10] : List UInt8)).length ≤ 9223372036854775807 := by (first | omega | (simp; omega))
        try simp at ct19
        refine EV.regionG tabOK ?_ -- region 13
        simp (maxSteps := 2000000) -implicitDefEqProofs [ct1, ct2, ct3, k12, u12, hx7, ct13, ct14, ct15, k16, u16, hx11, ct17, ct18, ct19]
        refine callG_fun (w_rInT' x11 (by first | assumption | grind)) ?_ ?_
        ·first | (simp; done) | (simp [ct1, ct2, ct3, k12, u12, hx7, ct13, ct14, ct15, k16, u16, hx11, ct17, ct18, ct19]; done)
        simp (maxSteps := 2000000) -implicitDefEqProofs [ct1, ct2, ct3, k12, u12, hx7, ct13, ct14, ct15, k16, u16, hx11, ct17, ct18, ct19]
        refine EV.regionG tabOK ?_ -- region 12
        simp (maxSteps := 2000000) -implicitDefEqProofs [ct1, ct2, ct3, k12, u12, hx7, ct13, ct14, ct15, k16, u16, hx11, ct17, ct18, ct19]
        have w11 : IntKind.i64.wrap ((j11 : Int) + 1) = (j11 : Int) + 1 := wrap_in _ (by omega) (by omega)
        refine ⟨⟨(j11 + 1, (((a11_0 ++ ([9] : List UInt8)) ++ (inT x11)) ++ ([10] : List UInt8))), by omega, e11, by ((try dsimp only); first | omega | assumption | (simp; done) | (simp; assumption) | (simp; omega) | (simp at *; omega) | simp_all)⟩, by dsimp only; omega, ?_⟩
        try dsimp only
        refine Sub.cutF 1 (by simp) ?_ ?_ <;> simp [List.range_succ, toIdx_range, passed, ct1, ct2, ct3, k12, u12, hx7, ct13, ct14, ct15, k16, u16, hx11, ct17, ct18, ct19, w11]
       ·try simp at k16
        have d16 : x7.ins.drop j11 = [] := List.drop_eq_nil_of_le (by omega)
        rw [d16, rTextB_l11] at e11
        refine EV.exit ?_
        simp -implicitDefEqProofs
        refine ⟨⟨(a11_0, ()), e11.symm, by ((try dsimp only); first | omega | assumption | (simp; done) | (simp; assumption) | (simp; omega) | (simp at *; omega) | simp_all)⟩, ?_⟩
        try dsimp only
        refine Sub.cutF 1 (by simp) ?_ ?_ <;> simp [List.range_succ, toIdx_range, passed, ct1, ct2, ct3, k12, u12, hx7, ct13, ct14, ct15]
     ·skip
      rintro ⟨⟨v11, g11⟩, e11, p11⟩
      simp only [thenK_normal, blockK_normal, scopeK_normal, bodyK_normal]
      try dsimp only at p11
      replace e7 := bnd_on e7 e11
      try dsimp only at e7
      have ct20 : (v11).length + (([9] : List UInt8)).length ≤ 9223372036854775807 := by (first | omega | (simp; omega))
      try simp at ct20
      have := tmT_len x7.end_ (by first | assumption | grind)
      have ct21 : ((v11 ++ ([9] : List UInt8))).length + ((tmT x7.end_)).length ≤ 9223372036854775807 := by (first | omega | (simp; omega))
      try simp at ct21
      have ct22 : (((v11 ++ ([9] : List UInt8)) ++ (tmT x7.end_))).length + (([10] : List UInt8)).length ≤ 9223372036854775807 := by (first | omega | (simp; omega))
      try simp at ct22
      refine EV.regionG tabOK ?_ -- region 14
      simp (maxSteps := 2000000) -implicitDefEqProofs [ct1, ct2, ct3, k12, u12, hx7, ct13, ct14, ct15, ct20, ct21, ct22]
      refine callG_fun (w_rTmT' x7.end_ (by first | assumption | grind)) ?_ ?_
      ·first | (simp; done) | (simp [ct1, ct2, ct3, k12, u12, hx7, ct13, ct14, ct15, ct20, ct21, ct22]; done)
      simp (maxSteps := 2000000) -implicitDefEqProofs [ct1, ct2, ct3, k12, u12, hx7, ct13, ct14, ct15, ct20, ct21, ct22]
      refine EV.regionG tabOK ?_ -- region 8
      simp (maxSteps := 2000000) -implicitDefEqProofs [ct1, ct2, ct3, k12, u12, hx7, ct13, ct14, ct15, ct20, ct21, ct22]
      have w7 : IntKind.i64.wrap ((j7 : Int) + 1) = (j7 : Int) + 1 := wrap_in _ (by omega) (by omega)
      refine ⟨⟨(j7 + 1, (((v11 ++ ([9] : List UInt8)) ++ (tmT x7.end_)) ++ ([10] : List UInt8))), by omega, e7, by ((try dsimp only); first | omega | assumption | (simp; done) | (simp; assumption) | (simp; omega) | (simp at *; omega) | simp_all)⟩, by dsimp only; omega, ?_⟩
      try dsimp only
      refine Sub.cutF 1 (by simp) ?_ ?_ <;> simp [List.range_succ, toIdx_range, passed, ct1, ct2, ct3, k12, u12, hx7, ct13, ct14, ct15, ct20, ct21, ct22, w7]
    ·try simp at k12
     have d12 : p0.blocks.drop j7 = [] := List.drop_eq_nil_of_le (by omega)
     rw [d12, rTextB_l7] at e7
     refine EV.exit ?_
     simp -implicitDefEqProofs
     refine ⟨⟨(a7_0, ()), e7.symm, by ((try dsimp only); first | omega | assumption | (simp; done) | (simp; assumption) | (simp; omega) | (simp at *; omega) | simp_all)⟩, ?_⟩
     try dsimp only
     refine Sub.cutF 0 (by simp) ?_ ?_ <;> simp [List.range_succ, toIdx_range, passed, ct1, ct2, ct3]
  ·skip
   rintro ⟨⟨v7, g7⟩, e7, p7⟩
   simp only [thenK_normal, blockK_normal, scopeK_normal, bodyK_normal]
   try dsimp only at p7
   replace e := bnd_on e e7
   try dsimp only at e
   refine EV.seq ?_
   refine EV.regionG tabOK ?_ -- region 15
   simp (maxSteps := 2000000) -implicitDefEqProofs [ct1, ct2, ct3]
   refine EV.ret ?_
   simp only [thenK_ret, blockK_ret, scopeK_ret, bodyK_ret]
   subst e
   refine Fin.pure0 ?_
   first | (simp; done) | (simp <;> grind)

theorem rTextB_eq (p0 : BodyD) : rTextB p0 = textT p0 := by
 have h1 : ∀ (l : List LocalD) (j : Nat) (a : List UInt8), rTextB_l3 l j a = a ++ locT j l := by
  intro l
  induction l with
  | nil => intro j a; simp [rTextB_l3, locT]
  | cons x l ih => intro j a; simp [rTextB_l3, locT, ih]
 have h2 : ∀ (l : List InD) (a : List UInt8), rTextB_l11 l a = a ++ insT l := by
  intro l
  induction l with
  | nil => intro a; simp [rTextB_l11, insT]
  | cons x l ih => intro a; simp [rTextB_l11, insT, ih]
 have h3 : ∀ (l : List BlockD) (j : Nat) (a : List UInt8), rTextB_l7 l j a = a ++ blkT j l := by
  intro l
  induction l with
  | nil => intro j a; simp [rTextB_l7, blkT]
  | cons x l ih => intro j a; simp [rTextB_l7, blkT, ih, h2, bnd]
 unfold rTextB textT
 simp [bnd, h1, h3]
end
end Go.Proofs.Tryd
end
