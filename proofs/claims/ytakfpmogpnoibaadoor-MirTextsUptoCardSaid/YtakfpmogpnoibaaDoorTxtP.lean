/- Contracts of the program's functions that write the text of a body. -/
import Derived.Test.YtakfpmogpnoibaaDoorLineA
set_option linter.unusedVariables false
set_option linter.unusedSimpArgs false
set_option linter.constructorNameAsVariable false
section
namespace Go.Proofs.Tryd
open Go Go.AM
attribute [local simp] wpG_op wpG_nil contG_some wpG_guard guardG_v guardG_o guardG_tup gval pureOp stepG_if isPick pickG_pick pickB_b pickOK isCall step_move step_assign step_alloc step_box boxV_some step_load step_store step_binOp step_unOp step_fieldAddr faV step_indexAddr ixA_slc ixA_arr step_extract extV_tup step_nilCheck ncV_ptr ncV_rp ncV_fn ncV_mp step_build buildV step_buildSlice bsV step_index ixV_arr ixV_str step_append apB step_makeSlice msV_i step_makeFunc over step_len step_makeMap mmV step_mapUpdate step_insert muA_map muB_mp step_lookup lkA_map lkB_mp step_slice slcV_s slcV_sl slcV_ro cutB_some slObV_arr bound_none bound_some bndV_i lenB_str lenB_ro lenB_sl lenB_nil lenB_z ld_ptr ld_rp offV_ptr offV_rp idxV_ro idxV_sl unV_not unV_neg binV_int binV_str binV_eqlb binV_neqb intOp strOp St.put updL setOb St.ev toV St.lk cellsOf AM.valOf TK.agg stv fillV places TI.zero condT_true condT_false finS resL resSlot packV ren ren1 ren0 Value.cells builtinV appendV elemsOf keepT room_of wrap_in toIdx passed Function.comp_def take_len_map lenV touchOf hid tab1 tab2 tab3 tab4 tab5 tab6 tab7 tab8 tab9 tab10 tab11 tab12 tab15 tab16 tab17 tab18 tab19 tab20 tab21 tab22 tab23 tab24 tab25 tab26 tab27 tab28 tab29 tab30 tab31 tab32 tab33 tab34 tab35 tab36 tab37 tab38 tab39 tab40 tab41 tab42 tab43 tab44 tab45 tab46 tab47 tab48 tab49 tab50 tab51 tab52 tab53 tab54 tab55 tab57 tab58 tab59 tab61 tab62 tab63 tab64 tab65 tab66 tab67 tab68 tab69 tab70 tab71 tab72 tab73 tab74 tab75 tab76 tab77 tab78 tab79 tab80 tab81 tab82 tab83 tab84 tab85 tab86 tab87 tab88 tab89 tab90 tab91 tab92 tab93 tab94 tab95 tab96 tab97 tab98 tab99 tab100 tab101 tab103 tab104 tab105 tab106 tab107 tab108 tab109 tab110 tab111 tab112 tab113 tab114 tab115 tab116 tab117 tab118 tab119 tab120 tab121 tab122 tab123 tab124 tab125 tab126 tab127 tab128 tab129 tab130 tab131 tab132 tab133 tab135 tab137 tab138 tab140 tab141 tab142 tab143 tab144 tab145 tab146 tab147 tab148 tab149 tab150 tab151 tab152 tab153 tab155 tab156 tab157 tab158 tab159 tab160 tab161 tab162 tab163 tab164 tab165 tab166 tab167 tab168 tab170 tab171 tab172 tab173 tab174 tab175 tab176 tab177 tab178 tab179 tab180 tab181 tab182 tab186 tab187 tab188 tab189 tab190 tab191 tab192 tab193 tab194 tab195 armC_eq blockC_eq bodyC_eq enumC_eq fieldC_eq fnC_eq inC_eq localC_eq mirBodyC_eq operC_eq placeC_eq rvC_eq sourceC_eq spotC_eq stepC_eq stmtC_eq structC_eq tmC_eq tyC_eq useC_eq valueC_eq variantC_eq byteV_fn binV_eqls binV_neqs cutL_nil cutL_junk cutL_cons ren_arr ren_gone ren_unborn ren_var ren_row step_convert cvV_i cvV_sl cvV_s cvK_slc cvE_u8 bytesOf bor1 bor2 bor3 bor4
set_option linter.unusedSimpArgs false
set_option linter.unusedVariables false
set_option maxRecDepth 10000
set_option maxHeartbeats 4000000
noncomputable section
theorem lenS_nil : lenS [] = 0 := rfl
theorem lenS_cons (x : List UInt8) (xs : List (List UInt8)) : lenS (x :: xs) = x.length + lenS xs := by simp [lenS]
theorem joinS_le (xs : List (List UInt8)) : (joinS xs).length ≤ xs.length + lenS xs := by
 cases xs with
 | nil => simp [joinS]
 | cons x ys => rw [joinS_len]; simp
theorem joinS_app {xs : List (List UInt8)} (h : xs ≠ []) (ys : List (List UInt8)) : joinS (xs ++ ys) = joinS xs ++ (ys.map fun y => 32 :: y).flatten := by
 cases xs with
 | nil => exact absurd rfl h
 | cons x xs => simp [joinS]
theorem w_dig (z : Int) (hz : inI64 z) : QC prog 68 [.i .i64 z] [] (.s (dig z)) [] := by rw [dig_eq hz]; exact walkIt z hz


def mNum (p0 : Int) : (List UInt8) :=
 (dig p0)
set_option maxHeartbeats 40000000 in
theorem w_mNum (p0 : Int) (hz : inI64 p0) : QC prog 33 [.i .i64 p0] [] (.s (mNum p0)) [] := by
 refine QC.of_body tabOK func33 rfl (by kernel_rfl) ?_
 simp only [f33]
 generalize e : mNum p0 = R
 unfold mNum at e
 refine EV.seq ?_
 refine EV.regionG tabOK ?_ -- region 0
 simp (maxSteps := 2000000) -implicitDefEqProofs
 refine EV.seq ?_
 have := dig_len p0
 refine EV.regionG tabOK ?_ -- region 1
 simp (maxSteps := 2000000) -implicitDefEqProofs
 refine callG_fun (w_dig p0 (by first | assumption | exact inI64_of (by omega) (by omega))) ?_ ?_
 ·simp
 simp (maxSteps := 2000000) -implicitDefEqProofs
 refine EV.ret ?_
 simp only [thenK_ret, blockK_ret, scopeK_ret, bodyK_ret]
 subst e
 refine Fin.pure0 ?_
 first | (simp; done) | (simp <;> grind)

theorem w_mNum' (z : Int) (hz : inI64 z) : QC prog 33 [.i .i64 z] [] (.s (dig z)) [] := w_mNum z hz

def mWords (oe : Nat) (pxs : List (List UInt8)) : (List UInt8) :=
 (joinS pxs)
set_option maxHeartbeats 40000000 in
theorem w_mWords (oe : Nat) (pxs : List (List UInt8)) (hl : (joinS pxs).length ≤ 1000000000) (hn : pxs.length ≤ 1000000000) : QC prog 32 [.sl 0 oe 0 pxs.length] [.arr oe 1 (pxs.map (fun z => [.s z]))] (.s (joinS pxs)) [.arr oe 1 (pxs.map fun x => [V.s x])] := by
 refine QC.of_body tabOK func32 rfl (by kernel_rfl) ?_
 simp only [f32]
 generalize e : mWords oe pxs = R
 unfold mWords at e
 refine EV.seq ?_
 refine EV.regionG tabOK ?_ -- region 0
 simp (maxSteps := 2000000) -implicitDefEqProofs
 refine EV.seq ?_
 have jl1 := joinS_le pxs
 try simp only [lenS_nil, lenS_cons, lenS_app, List.length_append, List.length_cons, List.length_nil] at jl1
 refine EV.regionG tabOK ?_ -- region 1
 simp (maxSteps := 2000000) -implicitDefEqProofs
 refine callG_own [0] rfl (walk45 oe pxs hl hn) ?_ ?_ ?_ ?_ ?_ ?_
 ·simp [List.range_succ]
 ·simp [List.range_succ]
 ·simp [List.range_succ]
 ·simp [List.range_succ]
 ·simp [List.range_succ]
 simp (maxSteps := 2000000) -implicitDefEqProofs [keys, callUpd, List.range_succ]
 refine EV.ret ?_
 simp only [thenK_ret, blockK_ret, scopeK_ret, bodyK_ret]
 subst e
 refine Fin.plain ?_ ?_
 ·simp [mWords]
 ·simp [List.range_succ]

def mSpotT_l3  : List Int → (List UInt8) → (List UInt8)
 | [], a3_0 => a3_0
 | x3 :: xs3, a3_0 => mSpotT_l3 xs3 (a3_0 ++ (([46] : List UInt8) ++ (dig x3)))
def mSpotT (p0 : SpotD) : (List UInt8) :=
 (bnd (mSpotT_l3 p0.path (dig p0.local_)) fun (v3 : (List UInt8)) => v3)
set_option maxHeartbeats 40000000 in
theorem w_mSpotT (p0 : SpotD) (h : SpotOK p0) : QC prog 69 [.agg [.i .i64 p0.local_, .ro 1 (p0.path.map (fun z => [.i .i64 z]))]] [] (.s (mSpotT p0)) [] := by
 refine QC.of_body tabOK func69 rfl (by kernel_rfl) ?_
 simp only [f69]
 generalize e : mSpotT p0 = R
 unfold mSpotT at e
 obtain ⟨h1, h2, h3⟩ := h
 refine EV.seq ?_
 refine EV.regionG tabOK ?_ -- region 0
 simp (maxSteps := 2000000) -implicitDefEqProofs
 refine EV.seq ?_
 have := dig_len p0.local_
 refine EV.regionG tabOK ?_ -- region 1
 simp (maxSteps := 2000000) -implicitDefEqProofs
 refine callG_fun (w_mNum' p0.local_ (by first | assumption | exact inI64_of (by omega) (by omega))) ?_ ?_
 ·simp
 simp (maxSteps := 2000000) -implicitDefEqProofs
 refine EV.seq ?_
 refine EV.seq ?_
 refine EV.regionG tabOK ?_ -- region 2
 simp (maxSteps := 2000000) -implicitDefEqProofs
 obtain ⟨z3, e3, e⟩ := bnd_split e
 refine EV.nrm (fun v : { v : ((List UInt8)) × (Unit) // z3 = v.1 } => (fun (v3 : (List UInt8)) (g3 : Unit) => (⟨[J, J, J, .s v3, J, J, J, J, J, J, J, J, J, J, J, J, J, J, J, J, J, J, J], []⟩ : St)) v.1.1 v.1.2) ?_ ?_
 ·skip
  refine EV.block ?_
  refine EV.loopB (fun x : { x : Nat × (List UInt8) // x.1 ≤ p0.path.length ∧ mSpotT_l3 (p0.path.drop x.1) x.2 = z3 ∧ (fun (j3 : Nat) (a3_0 : List UInt8) => a3_0.length ≤ 30 + j3 * 22) x.1 x.2 } => (fun (j3 : Nat) (a3_0 : List UInt8) => (⟨[J, J, J, .s a3_0, J, J, J, J, J, J, .ro 1 (p0.path.map (fun z => [.i .i64 z])), .i .i64 (p0.path.length : Int), .i .i64 (j3 : Int), J, J, J, J, J, J, J, J, J, J], []⟩ : St)) x.1.1 x.1.2) (fun x => p0.path.length - x.1.1) ⟨(0, (dig p0.local_)), Nat.zero_le _, e3, by ((try dsimp only); first | omega | assumption | (simp; done) | (simp; assumption) | (simp; omega) | (simp at *; omega) | simp_all)⟩ ?_ ?_
  ·skip
   try dsimp only
   try dsimp only
   refine Sub.cutF 0 (by simp) ?_ ?_ <;> simp [List.range_succ, toIdx_range, passed]
  ·skip
   rintro ⟨⟨j3, a3_0⟩, hi3, e3, q3⟩
   simp only at hi3 e3 ⊢
   try dsimp only at q3
   refine EV.seq ?_
   refine EV.regionG tabOK ?_ -- region 3
   simp (maxSteps := 2000000) -implicitDefEqProofs
   refine EV.seq ?_
   refine EV.room 10 (by rfl) (fun mj3 => ?_)
   simp at mj3
   refine EV.condT ?_
   simp -implicitDefEqProofs
   refine condT_intro (fun k1 => ?_) (fun k1 => ?_)
   ·try simp at k1
    have u1 : j3 < p0.path.length := by omega
    obtain ⟨x3, hx3⟩ : ∃ z, p0.path[j3] = z := ⟨_, rfl⟩
    have mx3 : x3 ∈ p0.path := by rw [← hx3]; exact List.getElem_mem _
    have hv3 := h3 x3 mx3
    have := dig_len x3
    rw [List.drop_eq_getElem_cons u1, hx3, mSpotT_l3] at e3
    refine EV.skip ?_
    simp only [thenK_normal, blockK_normal, scopeK_normal]
    refine EV.seq ?_
    refine EV.block ?_
    refine EV.seq ?_
    refine EV.regionG tabOK ?_ -- region 4
    simp (maxSteps := 2000000) -implicitDefEqProofs [k1, u1, hx3]
    have := dig_len x3
    have ct2 : (([46] : List UInt8)).length + ((dig x3)).length ≤ 9223372036854775807 := by (first | omega | (simp; omega))
    try simp at ct2
    have ct3 : (a3_0).length + ((([46] : List UInt8) ++ (dig x3))).length ≤ 9223372036854775807 := by (first | omega | (simp; omega))
    try simp at ct3
    refine EV.regionG tabOK ?_ -- region 5
    simp (maxSteps := 2000000) -implicitDefEqProofs [k1, u1, hx3, ct2, ct3]
    refine callG_fun (w_mNum' x3 (by first | assumption | exact inI64_of (by omega) (by omega))) ?_ ?_
    ·first | (simp; done) | (simp [k1, u1, hx3, ct2, ct3]; done)
    simp (maxSteps := 2000000) -implicitDefEqProofs [k1, u1, hx3, ct2, ct3]
    refine EV.regionG tabOK ?_ -- region 6
    simp (maxSteps := 2000000) -implicitDefEqProofs [k1, u1, hx3, ct2, ct3]
    have w3 : IntKind.i64.wrap ((j3 : Int) + 1) = (j3 : Int) + 1 := wrap_in _ (by omega) (by omega)
    refine ⟨⟨(j3 + 1, (a3_0 ++ (([46] : List UInt8) ++ (dig x3)))), by omega, e3, by ((try dsimp only); first | omega | assumption | (simp; done) | (simp; assumption) | (simp; omega) | (simp at *; omega) | simp_all)⟩, by dsimp only; omega, ?_⟩
    try dsimp only
    refine Sub.cutF 0 (by simp) ?_ ?_ <;> simp [List.range_succ, toIdx_range, passed, k1, u1, hx3, ct2, ct3, w3]
   ·try simp at k1
    have d1 : p0.path.drop j3 = [] := List.drop_eq_nil_of_le (by omega)
    rw [d1, mSpotT_l3] at e3
    refine EV.exit ?_
    simp -implicitDefEqProofs
    refine ⟨⟨(a3_0, ()), e3.symm⟩, ?_⟩
    try dsimp only
    refine Sub.cutF 0 (by simp) ?_ ?_ <;> simp [List.range_succ, toIdx_range, passed]
 ·skip
  rintro ⟨⟨v3, g3⟩, e3⟩
  simp only [thenK_normal, blockK_normal, scopeK_normal, bodyK_normal]
  replace e := bnd_on e e3
  try dsimp only at e
  refine EV.seq ?_
  refine EV.regionG tabOK ?_ -- region 7
  simp (maxSteps := 2000000) -implicitDefEqProofs
  refine EV.ret ?_
  simp only [thenK_ret, blockK_ret, scopeK_ret, bodyK_ret]
  subst e
  refine Fin.pure0 ?_
  first | (simp; done) | (simp <;> grind)
theorem mSpotT_eq (p0 : SpotD) : mSpotT p0 = spotT p0 := by
 have h : ∀ (l : List Int) (a : List UInt8), mSpotT_l3 l a = a ++ (l.map fun k => 46 :: dig k).flatten := by
  intro l
  induction l with
  | nil => intro a; simp [mSpotT_l3]
  | cons x l ih => intro a; simp [mSpotT_l3, ih]
 unfold mSpotT spotT
 simp [bnd, h]
theorem w_mSpotT' (p0 : SpotD) (h : SpotOK p0) : QC prog 69 [.agg [.i .i64 p0.local_, .ro 1 (p0.path.map (fun z => [.i .i64 z]))]] [] (.s (spotT p0)) [] := by rw [← mSpotT_eq p0]; exact w_mSpotT p0 h


def mUseT (p0 : UseD) : (List UInt8) :=
 (if p0.num = true then (([35] : List UInt8) ++ (dig p0.n)) else (if p0.move = true then (([109, 111, 118, 101, 32] : List UInt8) ++ (spotT p0.s)) else (([99, 111, 112, 121, 32] : List UInt8) ++ (spotT p0.s))))
set_option maxHeartbeats 40000000 in
theorem w_mUseT (p0 : UseD) (h : UseOK p0) : QC prog 71 [.agg [.b p0.num, .i .i64 p0.n, .b p0.move, .i .i64 p0.s.local_, .ro 1 (p0.s.path.map (fun z => [.i .i64 z]))]] [] (.s (mUseT p0)) [] := by
 refine QC.of_body tabOK func71 rfl (by kernel_rfl) ?_
 simp only [f71]
 generalize e : mUseT p0 = R
 unfold mUseT at e
 obtain ⟨h1, h2⟩ := h
 refine EV.seq ?_
 refine EV.regionG tabOK ?_ -- region 0
 simp (maxSteps := 2000000) -implicitDefEqProofs
 refine EV.seq ?_
 refine EV.block ?_
 refine EV.seq ?_
 refine EV.regionG tabOK ?_ -- region 1
 simp (maxSteps := 2000000) -implicitDefEqProofs
 refine EV.condT ?_
 simp -implicitDefEqProofs
 refine condT_intro (fun k1 => ?_) (fun k1 => ?_)
 ·try simp at k1
  obtain ⟨f1, e⟩ := pos_on2 e (by first | simpa using k1 | grind)
  try simp at f1
  refine EV.seq ?_
  have := dig_len p0.n
  have ct2 : (([35] : List UInt8)).length + ((dig p0.n)).length ≤ 9223372036854775807 := by (first | omega | (simp; omega))
  try simp at ct2
  refine EV.regionG tabOK ?_ -- region 2
  simp (maxSteps := 2000000) -implicitDefEqProofs [ct2]
  refine callG_fun (w_mNum' p0.n (by first | assumption | exact inI64_of (by omega) (by omega))) ?_ ?_
  ·first | (simp; done) | (simp [ct2]; done)
  simp (maxSteps := 2000000) -implicitDefEqProofs [ct2]
  refine EV.ret ?_
  simp only [thenK_ret, blockK_ret, scopeK_ret, bodyK_ret]
  subst e
  refine Fin.pure0 ?_
  first | (simp; done) | (simp <;> grind)
 ·try simp at k1
  obtain ⟨f1, e⟩ := neg_on2 e (by first | simpa using k1 | grind)
  try simp at f1
  refine EV.seq ?_
  refine EV.regionG tabOK ?_ -- region 3
  simp (maxSteps := 2000000) -implicitDefEqProofs
  refine EV.condT ?_
  simp -implicitDefEqProofs
  refine condT_intro (fun k3 => ?_) (fun k3 => ?_)
  ·try simp at k3
   obtain ⟨f3, e⟩ := pos_on2 e (by first | simpa using k3 | grind)
   try simp at f3
   refine EV.seq ?_
   have := spotT_len p0.s (by first | assumption | grind)
   have ct4 : (([109, 111, 118, 101, 32] : List UInt8)).length + ((spotT p0.s)).length ≤ 9223372036854775807 := by (first | omega | (simp; omega))
   try simp at ct4
   refine EV.regionG tabOK ?_ -- region 4
   simp (maxSteps := 2000000) -implicitDefEqProofs [ct4]
   refine callG_fun (w_mSpotT' p0.s (by first | assumption | grind)) ?_ ?_
   ·first | (simp; done) | (simp [ct4]; done)
   simp (maxSteps := 2000000) -implicitDefEqProofs [ct4]
   refine EV.ret ?_
   simp only [thenK_ret, blockK_ret, scopeK_ret, bodyK_ret]
   subst e
   refine Fin.pure0 ?_
   first | (simp; done) | (simp <;> grind)
  ·try simp at k3
   obtain ⟨f3, e⟩ := neg_on2 e (by first | simpa using k3 | grind)
   try simp at f3
   refine EV.skip ?_
   simp only [thenK_normal, blockK_normal, scopeK_normal]
   refine EV.seq ?_
   have := spotT_len p0.s (by first | assumption | grind)
   have ct5 : (([99, 111, 112, 121, 32] : List UInt8)).length + ((spotT p0.s)).length ≤ 9223372036854775807 := by (first | omega | (simp; omega))
   try simp at ct5
   refine EV.regionG tabOK ?_ -- region 5
   simp (maxSteps := 2000000) -implicitDefEqProofs [ct5]
   refine callG_fun (w_mSpotT' p0.s (by first | assumption | grind)) ?_ ?_
   ·first | (simp; done) | (simp [ct5]; done)
   simp (maxSteps := 2000000) -implicitDefEqProofs [ct5]
   refine EV.ret ?_
   simp only [thenK_ret, blockK_ret, scopeK_ret, bodyK_ret]
   subst e
   refine Fin.pure0 ?_
   first | (simp; done) | (simp <;> grind)
theorem mUseT_eq (p0 : UseD) : mUseT p0 = useT p0 := by
 unfold mUseT useT
 simp
theorem w_mUseT' (p0 : UseD) (h : UseOK p0) : QC prog 71 [.agg [.b p0.num, .i .i64 p0.n, .b p0.move, .i .i64 p0.s.local_, .ro 1 (p0.s.path.map (fun z => [.i .i64 z]))]] [] (.s (useT p0)) [] := by rw [← mUseT_eq p0]; exact w_mUseT p0 h
def mValueT_l3  : List UseD → (List (List UInt8)) → (List (List UInt8))
 | [], a3_0 => a3_0
 | x3 :: xs3, a3_0 => mValueT_l3 xs3 (a3_0 ++ ([(useT x3)] : List (List UInt8)))
def mValueT (p0 : ValueD) : (List UInt8) :=
 (bnd (mValueT_l3 p0.uses ([(dig p0.k), (dig p0.which), (dig p0.tag)] : List (List UInt8))) fun (v3 : (List (List UInt8))) => (if p0.k = 6 then (joinS (v3 ++ ([(spotT p0.s)] : List (List UInt8)))) else (if p0.k = 7 then (joinS (v3 ++ ([(spotT p0.s)] : List (List UInt8)))) else (if p0.k = 9 then (joinS (v3 ++ ([(spotT p0.s)] : List (List UInt8)))) else (joinS v3)))))
set_option maxHeartbeats 40000000 in
theorem w_mValueT (p0 : ValueD) (h : ValueOK p0) : QC prog 70 [.agg [.i .i64 p0.k, .ro 5 (p0.uses.map useC), .i .i64 p0.s.local_, .ro 1 (p0.s.path.map (fun z => [.i .i64 z])), .i .i64 p0.which, .i .i64 p0.tag]] [] (.s (mValueT p0)) [] := by
 refine QC.of_body tabOK func70 rfl (by kernel_rfl) ?_
 simp only [f70]
 generalize e : mValueT p0 = R
 unfold mValueT at e
 obtain ⟨h1, h2, h3, h4, h5, h6⟩ := h
 refine EV.seq ?_
 refine EV.regionG tabOK ?_ -- region 0
 simp (maxSteps := 2000000) -implicitDefEqProofs
 refine EV.seq ?_
 have := dig_len p0.k
 have := dig_len p0.which
 have := dig_len p0.tag
 refine EV.drawG tabOK mixedOK ?_ -- region 1
 simp (maxSteps := 2000000) -implicitDefEqProofs
 refine callG_fun (w_mNum' p0.k (by first | assumption | exact inI64_of (by omega) (by omega))) ?_ ?_
 ·simp
 simp (maxSteps := 2000000) -implicitDefEqProofs
 refine callG_fun (w_mNum' p0.which (by first | assumption | exact inI64_of (by omega) (by omega))) ?_ ?_
 ·simp
 simp (maxSteps := 2000000) -implicitDefEqProofs
 refine callG_fun (w_mNum' p0.tag (by first | assumption | exact inI64_of (by omega) (by omega))) ?_ ?_
 ·simp
 simp (maxSteps := 2000000) -implicitDefEqProofs
 refine And.intro ?_ ?_
 ·first | decide +kernel | (simp -implicitDefEqProofs; decide +kernel) | (split <;> decide +kernel)
 try simp -implicitDefEqProofs
 refine EV.seq ?_
 refine EV.seq ?_
 refine EV.regionG tabOK ?_ -- region 2
 simp (maxSteps := 2000000) -implicitDefEqProofs
 obtain ⟨z3, e3, e⟩ := bnd_split e
 refine EV.nrm (fun v : { v : ((List (List UInt8))) × (Nat) // z3 = v.1 ∧ (fun (v3 : (List (List UInt8))) => 3 ≤ v3.length ∧ v3.length ≤ 253 ∧ lenS v3 ≤ 1600000) v.1 } => (fun (v3 : (List (List UInt8))) (g3 : Nat) => (⟨[J, .ptr 0 0 0 0, J, .sl 1 g3 0 v3.length, J, J, J, J, J, J, J, J, J, J, J, J, J, J, J, J, J, J, J, J, J, J, J, J, J, J, J, J, J, J, J, J, J, J, J, J, J, J, J], [.arr 0 6 [[.i .i64 p0.k, .ro 5 (p0.uses.map useC), .i .i64 p0.s.local_, .ro 1 (p0.s.path.map (fun z => [.i .i64 z])), .i .i64 p0.which, .i .i64 p0.tag]], .arr g3 1 (v3.map (fun z => [.s z]))]⟩ : St)) v.1.1 v.1.2) ?_ ?_
 ·skip
  refine EV.block ?_
  refine EV.loopB (fun x : { x : Nat × (List (List UInt8)) × Nat // x.1 ≤ p0.uses.length ∧ mValueT_l3 (p0.uses.drop x.1) x.2.1 = z3 ∧ (fun (j3 : Nat) (a3_0 : List (List UInt8)) (a3_g0 : Nat) => a3_0.length = 3 + j3 ∧ lenS a3_0 ≤ 70 + j3 * 6010) x.1 x.2.1 x.2.2 } => (fun (j3 : Nat) (a3_0 : List (List UInt8)) (a3_g0 : Nat) => (⟨[J, .ptr 0 0 0 0, J, .sl 1 a3_g0 0 a3_0.length, J, J, J, J, J, J, J, J, J, J, J, J, J, .ro 5 (p0.uses.map useC), .i .i64 (p0.uses.length : Int), .i .i64 (j3 : Int), J, J, J, J, J, J, J, J, J, J, J, J, J, J, J, J, J, J, J, J, J, J, J], [.arr 0 6 [[.i .i64 p0.k, .ro 5 (p0.uses.map useC), .i .i64 p0.s.local_, .ro 1 (p0.s.path.map (fun z => [.i .i64 z])), .i .i64 p0.which, .i .i64 p0.tag]], .arr a3_g0 1 (a3_0.map (fun z => [.s z]))]⟩ : St)) x.1.1 x.1.2.1 x.1.2.2) (fun x => p0.uses.length - x.1.1) ⟨(0, ([(dig p0.k), (dig p0.which), (dig p0.tag)] : List (List UInt8)), 0), Nat.zero_le _, e3, by ((try dsimp only); refine ⟨?_, ?_⟩ <;> (try simp only [lenS_nil, lenS_cons, lenS_app, List.length_append, List.length_cons, List.length_nil]) <;> omega)⟩ ?_ ?_
  ·skip
   try dsimp only
   try dsimp only
   refine Sub.cutF 2 (by simp) ?_ ?_ <;> simp [List.range_succ, toIdx_range, passed]
  ·skip
   rintro ⟨⟨j3, a3_0, a3_g0⟩, hi3, e3, q3⟩
   simp only at hi3 e3 ⊢
   try dsimp only at q3
   refine EV.seq ?_
   refine EV.regionG tabOK ?_ -- region 3
   simp (maxSteps := 2000000) -implicitDefEqProofs
   refine EV.seq ?_
   refine EV.room 17 (by rfl) (fun mj3 => ?_)
   simp at mj3
   refine EV.condT ?_
   simp -implicitDefEqProofs
   refine condT_intro (fun k1 => ?_) (fun k1 => ?_)
   ·try simp at k1
    have u1 : j3 < p0.uses.length := by omega
    obtain ⟨x3, hx3⟩ : ∃ z, p0.uses[j3] = z := ⟨_, rfl⟩
    have mx3 : x3 ∈ p0.uses := by rw [← hx3]; exact List.getElem_mem _
    have hv3 := h5 x3 mx3
    rw [List.drop_eq_getElem_cons u1, hx3, mValueT_l3] at e3
    refine EV.skip ?_
    simp only [thenK_normal, blockK_normal, scopeK_normal]
    refine EV.seq ?_
    refine EV.block ?_
    refine EV.seq ?_
    refine EV.regionG tabOK ?_ -- region 4
    simp (maxSteps := 2000000) -implicitDefEqProofs [k1, u1, hx3]
    have := useT_len x3 (by first | assumption | grind)
    have r2 : roomFor (a3_0.length + 1) 16 := room_of (by omega) (by decide)
    refine EV.regionG tabOK ?_ -- region 5
    simp (maxSteps := 2000000) -implicitDefEqProofs [k1, u1, hx3, r2]
    refine callG_fun (w_mUseT' x3 (by first | assumption | grind)) ?_ ?_
    ·first | (simp; done) | (simp [k1, u1, hx3, r2]; done)
    simp (maxSteps := 2000000) -implicitDefEqProofs [k1, u1, hx3, r2]
    refine EV.regionG tabOK ?_ -- region 6
    simp (maxSteps := 2000000) -implicitDefEqProofs [k1, u1, hx3, r2]
    have w3 : IntKind.i64.wrap ((j3 : Int) + 1) = (j3 : Int) + 1 := wrap_in _ (by omega) (by omega)
    refine ⟨⟨(j3 + 1, (a3_0 ++ ([(useT x3)] : List (List UInt8))), (a3_g0 + 1)), by omega, e3, by ((try dsimp only); refine ⟨?_, ?_⟩ <;> (try simp only [lenS_nil, lenS_cons, lenS_app, List.length_append, List.length_cons, List.length_nil]) <;> omega)⟩, by dsimp only; omega, ?_⟩
    try dsimp only
    refine Sub.cutF 2 (by simp) ?_ ?_ <;> simp [List.range_succ, toIdx_range, passed, k1, u1, hx3, r2, w3]
   ·try simp at k1
    have d1 : p0.uses.drop j3 = [] := List.drop_eq_nil_of_le (by omega)
    rw [d1, mValueT_l3] at e3
    refine EV.exit ?_
    simp -implicitDefEqProofs
    refine ⟨⟨(a3_0, a3_g0), e3.symm, by ((try dsimp only); refine ⟨?_, ?_, ?_⟩ <;> omega)⟩, ?_⟩
    try dsimp only
    refine Sub.cutF 2 (by simp) ?_ ?_ <;> simp [List.range_succ, toIdx_range, passed]
 ·skip
  rintro ⟨⟨v3, g3⟩, e3, p3⟩
  simp only [thenK_normal, blockK_normal, scopeK_normal, bodyK_normal]
  try dsimp only at p3
  replace e := bnd_on e e3
  try dsimp only at e
  refine EV.seq ?_
  refine EV.seq ?_
  refine EV.regionG tabOK ?_ -- region 7
  simp (maxSteps := 2000000) -implicitDefEqProofs
  refine EV.block ?_
  refine EV.seq ?_
  refine EV.seq ?_
  refine EV.regionG tabOK ?_ -- region 8
  simp (maxSteps := 2000000) -implicitDefEqProofs
  refine EV.condT ?_
  simp -implicitDefEqProofs
  refine condT_intro (fun k3 => ?_) (fun k3 => ?_)
  ·try simp at k3
   obtain ⟨f3, e⟩ := pos_on2 e (by first | simpa using k3 | grind)
   try simp at f3
   refine EV.skip ?_
   simp only [thenK_normal, blockK_normal, scopeK_normal]
   refine EV.condT ?_
   simp -implicitDefEqProofs
   have := spotT_len p0.s (by first | assumption | grind)
   have r4 : roomFor (v3.length + 1) 16 := room_of (by omega) (by decide)
   refine EV.regionG tabOK ?_ -- region 11
   simp (maxSteps := 2000000) -implicitDefEqProofs [r4]
   refine callG_fun (w_mSpotT' p0.s (by first | assumption | grind)) ?_ ?_
   ·first | (simp; done) | (simp [r4]; done)
   simp (maxSteps := 2000000) -implicitDefEqProofs [r4]
   refine EV.seq ?_
   have jl5 := joinS_le (v3 ++ ([(spotT p0.s)] : List (List UInt8)))
   try simp only [lenS_nil, lenS_cons, lenS_app, List.length_append, List.length_cons, List.length_nil] at jl5
   refine EV.regionG tabOK ?_ -- region 12
   simp (maxSteps := 2000000) -implicitDefEqProofs [r4]
   refine callG_own [1] rfl (walk45 (g3 + 1) (v3 ++ ([(spotT p0.s)] : List (List UInt8))) (Nat.le_trans (joinS_le _) (by (try simp only [lenS_nil, lenS_cons, lenS_app, List.length_append, List.length_cons, List.length_nil]); omega)) (by (try simp only [lenS_nil, lenS_cons, lenS_app, List.length_append, List.length_cons, List.length_nil]); omega)) ?_ ?_ ?_ ?_ ?_ ?_
   ·simp [List.range_succ]
   ·simp [List.range_succ]
   ·simp [List.range_succ]
   ·simp [List.range_succ]
   ·simp [List.range_succ]
   simp (maxSteps := 2000000) -implicitDefEqProofs [r4, keys, callUpd, List.range_succ]
   refine EV.ret ?_
   simp only [thenK_ret, blockK_ret, scopeK_ret, bodyK_ret]
   subst e
   refine Fin.pure0 ?_
   first | (simp; done) | (simp <;> grind)
  ·try simp at k3
   obtain ⟨f3, e⟩ := neg_on2 e (by first | simpa using k3 | grind)
   try simp at f3
   refine EV.seq ?_
   refine EV.regionG tabOK ?_ -- region 9
   simp (maxSteps := 2000000) -implicitDefEqProofs
   refine EV.condT ?_
   simp -implicitDefEqProofs
   refine condT_intro (fun k6 => ?_) (fun k6 => ?_)
   ·try simp at k6
    obtain ⟨f6, e⟩ := pos_on2 e (by first | simpa using k6 | grind)
    try simp at f6
    refine EV.skip ?_
    simp only [thenK_normal, blockK_normal, scopeK_normal]
    refine EV.condT ?_
    simp -implicitDefEqProofs
    have := spotT_len p0.s (by first | assumption | grind)
    have r7 : roomFor (v3.length + 1) 16 := room_of (by omega) (by decide)
    refine EV.regionG tabOK ?_ -- region 11
    simp (maxSteps := 2000000) -implicitDefEqProofs [r7]
    refine callG_fun (w_mSpotT' p0.s (by first | assumption | grind)) ?_ ?_
    ·first | (simp; done) | (simp [r7]; done)
    simp (maxSteps := 2000000) -implicitDefEqProofs [r7]
    refine EV.seq ?_
    have jl8 := joinS_le (v3 ++ ([(spotT p0.s)] : List (List UInt8)))
    try simp only [lenS_nil, lenS_cons, lenS_app, List.length_append, List.length_cons, List.length_nil] at jl8
    refine EV.regionG tabOK ?_ -- region 12
    simp (maxSteps := 2000000) -implicitDefEqProofs [r7]
    refine callG_own [1] rfl (walk45 (g3 + 1) (v3 ++ ([(spotT p0.s)] : List (List UInt8))) (Nat.le_trans (joinS_le _) (by (try simp only [lenS_nil, lenS_cons, lenS_app, List.length_append, List.length_cons, List.length_nil]); omega)) (by (try simp only [lenS_nil, lenS_cons, lenS_app, List.length_append, List.length_cons, List.length_nil]); omega)) ?_ ?_ ?_ ?_ ?_ ?_
    ·simp [List.range_succ]
    ·simp [List.range_succ]
    ·simp [List.range_succ]
    ·simp [List.range_succ]
    ·simp [List.range_succ]
    simp (maxSteps := 2000000) -implicitDefEqProofs [r7, keys, callUpd, List.range_succ]
    refine EV.ret ?_
    simp only [thenK_ret, blockK_ret, scopeK_ret, bodyK_ret]
    subst e
    refine Fin.pure0 ?_
    first | (simp; done) | (simp <;> grind)
   ·try simp at k6
    obtain ⟨f6, e⟩ := neg_on2 e (by first | simpa using k6 | grind)
    try simp at f6
    refine EV.regionG tabOK ?_ -- region 10
    simp (maxSteps := 2000000) -implicitDefEqProofs
    refine EV.condT ?_
    simp -implicitDefEqProofs
    refine condT_intro (fun k9 => ?_) (fun k9 => ?_)
    ·try simp at k9
     obtain ⟨f9, e⟩ := pos_on2 e (by first | simpa using k9 | grind)
     try simp at f9
     have := spotT_len p0.s (by first | assumption | grind)
     have r10 : roomFor (v3.length + 1) 16 := room_of (by omega) (by decide)
     refine EV.regionG tabOK ?_ -- region 11
     simp (maxSteps := 2000000) -implicitDefEqProofs [r10]
     refine callG_fun (w_mSpotT' p0.s (by first | assumption | grind)) ?_ ?_
     ·first | (simp; done) | (simp [r10]; done)
     simp (maxSteps := 2000000) -implicitDefEqProofs [r10]
     refine EV.seq ?_
     have jl11 := joinS_le (v3 ++ ([(spotT p0.s)] : List (List UInt8)))
     try simp only [lenS_nil, lenS_cons, lenS_app, List.length_append, List.length_cons, List.length_nil] at jl11
     refine EV.regionG tabOK ?_ -- region 12
     simp (maxSteps := 2000000) -implicitDefEqProofs [r10]
     refine callG_own [1] rfl (walk45 (g3 + 1) (v3 ++ ([(spotT p0.s)] : List (List UInt8))) (Nat.le_trans (joinS_le _) (by (try simp only [lenS_nil, lenS_cons, lenS_app, List.length_append, List.length_cons, List.length_nil]); omega)) (by (try simp only [lenS_nil, lenS_cons, lenS_app, List.length_append, List.length_cons, List.length_nil]); omega)) ?_ ?_ ?_ ?_ ?_ ?_
     ·simp [List.range_succ]
     ·simp [List.range_succ]
     ·simp [List.range_succ]
     ·simp [List.range_succ]
     ·simp [List.range_succ]
     simp (maxSteps := 2000000) -implicitDefEqProofs [r10, keys, callUpd, List.range_succ]
     refine EV.ret ?_
     simp only [thenK_ret, blockK_ret, scopeK_ret, bodyK_ret]
     subst e
     refine Fin.pure0 ?_
     first | (simp; done) | (simp <;> grind)
    ·try simp at k9
     obtain ⟨f9, e⟩ := neg_on2 e (by first | simpa using k9 | grind)
     try simp at f9
     refine EV.skip ?_
     simp only [thenK_normal, blockK_normal, scopeK_normal]
     refine EV.seq ?_
     have jl12 := joinS_le v3
     try simp only [lenS_nil, lenS_cons, lenS_app, List.length_append, List.length_cons, List.length_nil] at jl12
     refine EV.regionG tabOK ?_ -- region 12
     simp (maxSteps := 2000000) -implicitDefEqProofs
     refine callG_own [1] rfl (walk45 g3 v3 (Nat.le_trans (joinS_le _) (by (try simp only [lenS_nil, lenS_cons, lenS_app, List.length_append, List.length_cons, List.length_nil]); omega)) (by (try simp only [lenS_nil, lenS_cons, lenS_app, List.length_append, List.length_cons, List.length_nil]); omega)) ?_ ?_ ?_ ?_ ?_ ?_
     ·simp [List.range_succ]
     ·simp [List.range_succ]
     ·simp [List.range_succ]
     ·simp [List.range_succ]
     ·simp [List.range_succ]
     simp (maxSteps := 2000000) -implicitDefEqProofs [keys, callUpd, List.range_succ]
     refine EV.ret ?_
     simp only [thenK_ret, blockK_ret, scopeK_ret, bodyK_ret]
     subst e
     refine Fin.pure0 ?_
     first | (simp; done) | (simp <;> grind)
theorem mValueT_eq (p0 : ValueD) : mValueT p0 = valueT p0 := by
 have h : ∀ (l : List UseD) (a : List (List UInt8)), mValueT_l3 l a = a ++ l.map useT := by
  intro l
  induction l with
  | nil => intro a; simp [mValueT_l3]
  | cons x l ih => intro a; simp [mValueT_l3, ih]
 unfold mValueT valueT
 simp only [bnd, h]
 by_cases h1 : p0.k = 6
 ·simp [h1, joinS, Function.comp_def]
 ·by_cases h2 : p0.k = 7
  ·simp [h2, joinS, Function.comp_def]
  ·by_cases h3 : p0.k = 9
   ·simp [h3, joinS, Function.comp_def]
   ·simp [h1, h2, h3, joinS, Function.comp_def]
theorem w_mValueT' (p0 : ValueD) (h : ValueOK p0) : QC prog 70 [.agg [.i .i64 p0.k, .ro 5 (p0.uses.map useC), .i .i64 p0.s.local_, .ro 1 (p0.s.path.map (fun z => [.i .i64 z])), .i .i64 p0.which, .i .i64 p0.tag]] [] (.s (valueT p0)) [] := by rw [← mValueT_eq p0]; exact w_mValueT p0 h

def mInT (p0 : InD) : (List UInt8) :=
 (if p0.k = 0 then (joinS ([([108, 105, 118, 101] : List UInt8), (dig p0.s.local_)] : List (List UInt8))) else (if p0.k = 1 then (joinS ([([100, 101, 97, 100] : List UInt8), (dig p0.s.local_)] : List (List UInt8))) else (if p0.k = 3 then (if p0.u.move = true then (joinS ([([100, 114, 111, 112] : List UInt8), (dig p0.s.local_)] : List (List UInt8))) else (joinS ([([101, 110, 100] : List UInt8), (dig p0.s.local_)] : List (List UInt8)))) else (if p0.k = 2 then (joinS ([([115, 101, 116] : List UInt8), (spotT p0.s), ([61] : List UInt8), (valueT p0.v)] : List (List UInt8))) else (if p0.k = 4 then (joinS ([([112, 114, 105, 110, 116] : List UInt8), (useT p0.u)] : List (List UInt8))) else (if p0.k = 5 then (joinS ([([111, 112, 101, 110] : List UInt8), (spotT p0.s), (dig p0.v.tag), (dig p0.v.s.local_)] : List (List UInt8))) else ([63] : List UInt8)))))))
set_option maxHeartbeats 40000000 in
theorem w_mInT (p0 : InD) (h : InOK p0) : QC prog 35 [.agg [.i .i64 p0.k, .i .i64 p0.at_, .i .i64 p0.s.local_, .ro 1 (p0.s.path.map (fun z => [.i .i64 z])), .i .i64 p0.v.k, .ro 5 (p0.v.uses.map useC), .i .i64 p0.v.s.local_, .ro 1 (p0.v.s.path.map (fun z => [.i .i64 z])), .i .i64 p0.v.which, .i .i64 p0.v.tag, .b p0.u.num, .i .i64 p0.u.n, .b p0.u.move, .i .i64 p0.u.s.local_, .ro 1 (p0.u.s.path.map (fun z => [.i .i64 z]))]] [] (.s (mInT p0)) [] := by
 refine QC.of_body tabOK func35 rfl (by kernel_rfl) ?_
 simp only [f35]
 generalize e : mInT p0 = R
 unfold mInT at e
 obtain ⟨⟨h1, h2, h3⟩, h4, h5⟩ := h
 have hs : SpotOK p0.s := ⟨h1, h2, h3⟩
 obtain ⟨g1, g2, g3, g4, g5, ⟨g6, g7⟩⟩ := h4
 have hv : ValueOK p0.v := ⟨g1, g2, g3, g4, g5, ⟨g6, g7⟩⟩
 refine EV.seq ?_
 refine EV.regionG tabOK ?_ -- region 0
 simp (maxSteps := 2000000) -implicitDefEqProofs
 refine EV.seq ?_
 have := dig_len p0.s.local_
 refine EV.regionG tabOK ?_ -- region 1
 simp (maxSteps := 2000000) -implicitDefEqProofs
 refine callG_fun (w_mNum' p0.s.local_ (by first | assumption | exact inI64_of (by omega) (by omega))) ?_ ?_
 ·simp
 simp (maxSteps := 2000000) -implicitDefEqProofs
 refine EV.seq ?_
 refine EV.seq ?_
 refine EV.regionG tabOK ?_ -- region 2
 simp (maxSteps := 2000000) -implicitDefEqProofs
 refine EV.block ?_
 refine EV.seq ?_
 refine EV.regionG tabOK ?_ -- region 3
 simp (maxSteps := 2000000) -implicitDefEqProofs
 refine EV.condT ?_
 simp -implicitDefEqProofs
 refine condT_intro (fun k1 => ?_) (fun k1 => ?_)
 ·try simp at k1
  obtain ⟨f1, e⟩ := pos_on2 e (by first | simpa using k1 | grind)
  try simp at f1
  refine EV.seq ?_
  have jl2 := joinS_le ([([108, 105, 118, 101] : List UInt8), (dig p0.s.local_)] : List (List UInt8))
  try simp only [lenS_nil, lenS_cons, lenS_app, List.length_append, List.length_cons, List.length_nil] at jl2
  refine EV.regionG tabOK ?_ -- region 4
  simp (maxSteps := 2000000) -implicitDefEqProofs
  refine callG_own [1] rfl (w_mWords 0 ([([108, 105, 118, 101] : List UInt8), (dig p0.s.local_)] : List (List UInt8)) (Nat.le_trans (joinS_le _) (by (try simp only [lenS_nil, lenS_cons, lenS_app, List.length_append, List.length_cons, List.length_nil]); omega)) (by (try simp only [lenS_nil, lenS_cons, lenS_app, List.length_append, List.length_cons, List.length_nil]); omega)) ?_ ?_ ?_ ?_ ?_ ?_
  ·simp [List.range_succ]
  ·simp [List.range_succ]
  ·simp [List.range_succ]
  ·simp [List.range_succ]
  ·simp [List.range_succ]
  simp (maxSteps := 2000000) -implicitDefEqProofs [keys, callUpd, List.range_succ]
  refine EV.ret ?_
  simp only [thenK_ret, blockK_ret, scopeK_ret, bodyK_ret]
  subst e
  refine Fin.pure0 ?_
  first | (simp; done) | (simp <;> grind)
 ·try simp at k1
  obtain ⟨f1, e⟩ := neg_on2 e (by first | simpa using k1 | grind)
  try simp at f1
  refine EV.seq ?_
  refine EV.regionG tabOK ?_ -- region 5
  simp (maxSteps := 2000000) -implicitDefEqProofs
  refine EV.condT ?_
  simp -implicitDefEqProofs
  refine condT_intro (fun k3 => ?_) (fun k3 => ?_)
  ·try simp at k3
   obtain ⟨f3, e⟩ := pos_on2 e (by first | simpa using k3 | grind)
   try simp at f3
   refine EV.seq ?_
   have jl4 := joinS_le ([([100, 101, 97, 100] : List UInt8), (dig p0.s.local_)] : List (List UInt8))
   try simp only [lenS_nil, lenS_cons, lenS_app, List.length_append, List.length_cons, List.length_nil] at jl4
   refine EV.regionG tabOK ?_ -- region 6
   simp (maxSteps := 2000000) -implicitDefEqProofs
   refine callG_own [1] rfl (w_mWords 0 ([([100, 101, 97, 100] : List UInt8), (dig p0.s.local_)] : List (List UInt8)) (Nat.le_trans (joinS_le _) (by (try simp only [lenS_nil, lenS_cons, lenS_app, List.length_append, List.length_cons, List.length_nil]); omega)) (by (try simp only [lenS_nil, lenS_cons, lenS_app, List.length_append, List.length_cons, List.length_nil]); omega)) ?_ ?_ ?_ ?_ ?_ ?_
   ·simp [List.range_succ]
   ·simp [List.range_succ]
   ·simp [List.range_succ]
   ·simp [List.range_succ]
   ·simp [List.range_succ]
   simp (maxSteps := 2000000) -implicitDefEqProofs [keys, callUpd, List.range_succ]
   refine EV.ret ?_
   simp only [thenK_ret, blockK_ret, scopeK_ret, bodyK_ret]
   subst e
   refine Fin.pure0 ?_
   first | (simp; done) | (simp <;> grind)
  ·try simp at k3
   obtain ⟨f3, e⟩ := neg_on2 e (by first | simpa using k3 | grind)
   try simp at f3
   refine EV.seq ?_
   refine EV.regionG tabOK ?_ -- region 7
   simp (maxSteps := 2000000) -implicitDefEqProofs
   refine EV.condT ?_
   simp -implicitDefEqProofs
   refine condT_intro (fun k5 => ?_) (fun k5 => ?_)
   ·try simp at k5
    obtain ⟨f5, e⟩ := pos_on2 e (by first | simpa using k5 | grind)
    try simp at f5
    refine EV.seq ?_
    refine EV.seq ?_
    refine EV.regionG tabOK ?_ -- region 8
    simp (maxSteps := 2000000) -implicitDefEqProofs
    refine EV.condT ?_
    simp -implicitDefEqProofs
    refine condT_intro (fun k6 => ?_) (fun k6 => ?_)
    ·try simp at k6
     obtain ⟨f6, e⟩ := pos_on2 e (by first | simpa using k6 | grind)
     try simp at f6
     refine EV.seq ?_
     have jl7 := joinS_le ([([100, 114, 111, 112] : List UInt8), (dig p0.s.local_)] : List (List UInt8))
     try simp only [lenS_nil, lenS_cons, lenS_app, List.length_append, List.length_cons, List.length_nil] at jl7
     refine EV.regionG tabOK ?_ -- region 9
     simp (maxSteps := 2000000) -implicitDefEqProofs
     refine callG_own [1] rfl (w_mWords 0 ([([100, 114, 111, 112] : List UInt8), (dig p0.s.local_)] : List (List UInt8)) (Nat.le_trans (joinS_le _) (by (try simp only [lenS_nil, lenS_cons, lenS_app, List.length_append, List.length_cons, List.length_nil]); omega)) (by (try simp only [lenS_nil, lenS_cons, lenS_app, List.length_append, List.length_cons, List.length_nil]); omega)) ?_ ?_ ?_ ?_ ?_ ?_
     ·simp [List.range_succ]
     ·simp [List.range_succ]
     ·simp [List.range_succ]
     ·simp [List.range_succ]
     ·simp [List.range_succ]
     simp (maxSteps := 2000000) -implicitDefEqProofs [keys, callUpd, List.range_succ]
     refine EV.ret ?_
     simp only [thenK_ret, blockK_ret, scopeK_ret, bodyK_ret]
     subst e
     refine Fin.pure0 ?_
     first | (simp; done) | (simp <;> grind)
    ·try simp at k6
     obtain ⟨f6, e⟩ := neg_on2 e (by first | simpa using k6 | grind)
     try simp at f6
     refine EV.skip ?_
     simp only [thenK_normal, blockK_normal, scopeK_normal]
     refine EV.seq ?_
     have jl8 := joinS_le ([([101, 110, 100] : List UInt8), (dig p0.s.local_)] : List (List UInt8))
     try simp only [lenS_nil, lenS_cons, lenS_app, List.length_append, List.length_cons, List.length_nil] at jl8
     refine EV.regionG tabOK ?_ -- region 10
     simp (maxSteps := 2000000) -implicitDefEqProofs
     refine callG_own [1] rfl (w_mWords 0 ([([101, 110, 100] : List UInt8), (dig p0.s.local_)] : List (List UInt8)) (Nat.le_trans (joinS_le _) (by (try simp only [lenS_nil, lenS_cons, lenS_app, List.length_append, List.length_cons, List.length_nil]); omega)) (by (try simp only [lenS_nil, lenS_cons, lenS_app, List.length_append, List.length_cons, List.length_nil]); omega)) ?_ ?_ ?_ ?_ ?_ ?_
     ·simp [List.range_succ]
     ·simp [List.range_succ]
     ·simp [List.range_succ]
     ·simp [List.range_succ]
     ·simp [List.range_succ]
     simp (maxSteps := 2000000) -implicitDefEqProofs [keys, callUpd, List.range_succ]
     refine EV.ret ?_
     simp only [thenK_ret, blockK_ret, scopeK_ret, bodyK_ret]
     subst e
     refine Fin.pure0 ?_
     first | (simp; done) | (simp <;> grind)
   ·try simp at k5
    obtain ⟨f5, e⟩ := neg_on2 e (by first | simpa using k5 | grind)
    try simp at f5
    refine EV.seq ?_
    refine EV.regionG tabOK ?_ -- region 11
    simp (maxSteps := 2000000) -implicitDefEqProofs
    refine EV.condT ?_
    simp -implicitDefEqProofs
    refine condT_intro (fun k9 => ?_) (fun k9 => ?_)
    ·try simp at k9
     obtain ⟨f9, e⟩ := pos_on2 e (by first | simpa using k9 | grind)
     try simp at f9
     refine EV.seq ?_
     have := spotT_len p0.s (by first | assumption | grind)
     have := valueT_len p0.v (by first | assumption | grind)
     have jl10 := joinS_le ([([115, 101, 116] : List UInt8), (spotT p0.s), ([61] : List UInt8), (valueT p0.v)] : List (List UInt8))
     try simp only [lenS_nil, lenS_cons, lenS_app, List.length_append, List.length_cons, List.length_nil] at jl10
     refine EV.drawG tabOK mixedOK ?_ -- region 12
     simp (maxSteps := 2000000) -implicitDefEqProofs
     refine callG_fun (w_mSpotT' p0.s (by first | assumption | grind)) ?_ ?_
     ·simp
     simp (maxSteps := 2000000) -implicitDefEqProofs
     refine callG_fun (w_mValueT' p0.v (by first | assumption | grind)) ?_ ?_
     ·simp
     simp (maxSteps := 2000000) -implicitDefEqProofs
     refine callG_own [1] rfl (w_mWords 0 ([([115, 101, 116] : List UInt8), (spotT p0.s), ([61] : List UInt8), (valueT p0.v)] : List (List UInt8)) (Nat.le_trans (joinS_le _) (by (try simp only [lenS_nil, lenS_cons, lenS_app, List.length_append, List.length_cons, List.length_nil]); omega)) (by (try simp only [lenS_nil, lenS_cons, lenS_app, List.length_append, List.length_cons, List.length_nil]); omega)) ?_ ?_ ?_ ?_ ?_ ?_
     ·simp [List.range_succ]
     ·simp [List.range_succ]
     ·simp [List.range_succ]
     ·simp [List.range_succ]
     ·simp [List.range_succ]
     simp (maxSteps := 2000000) -implicitDefEqProofs [keys, callUpd, List.range_succ]
     refine And.intro ?_ ?_
     ·first | decide +kernel | (simp -implicitDefEqProofs; decide +kernel) | (split <;> decide +kernel)
     try simp -implicitDefEqProofs
     refine EV.ret ?_
     simp only [thenK_ret, blockK_ret, scopeK_ret, bodyK_ret]
     subst e
     refine Fin.pure0 ?_
     first | (simp; done) | (simp <;> grind)
    ·try simp at k9
     obtain ⟨f9, e⟩ := neg_on2 e (by first | simpa using k9 | grind)
     try simp at f9
     refine EV.seq ?_
     refine EV.regionG tabOK ?_ -- region 13
     simp (maxSteps := 2000000) -implicitDefEqProofs
     refine EV.condT ?_
     simp -implicitDefEqProofs
     refine condT_intro (fun k11 => ?_) (fun k11 => ?_)
     ·try simp at k11
      obtain ⟨f11, e⟩ := pos_on2 e (by first | simpa using k11 | grind)
      try simp at f11
      refine EV.seq ?_
      have := useT_len p0.u (by first | assumption | grind)
      have jl12 := joinS_le ([([112, 114, 105, 110, 116] : List UInt8), (useT p0.u)] : List (List UInt8))
      try simp only [lenS_nil, lenS_cons, lenS_app, List.length_append, List.length_cons, List.length_nil] at jl12
      refine EV.regionG tabOK ?_ -- region 14
      simp (maxSteps := 2000000) -implicitDefEqProofs
      refine callG_fun (w_mUseT' p0.u (by first | assumption | grind)) ?_ ?_
      ·simp
      simp (maxSteps := 2000000) -implicitDefEqProofs
      refine callG_own [1] rfl (w_mWords 0 ([([112, 114, 105, 110, 116] : List UInt8), (useT p0.u)] : List (List UInt8)) (Nat.le_trans (joinS_le _) (by (try simp only [lenS_nil, lenS_cons, lenS_app, List.length_append, List.length_cons, List.length_nil]); omega)) (by (try simp only [lenS_nil, lenS_cons, lenS_app, List.length_append, List.length_cons, List.length_nil]); omega)) ?_ ?_ ?_ ?_ ?_ ?_
      ·simp [List.range_succ]
      ·simp [List.range_succ]
      ·simp [List.range_succ]
      ·simp [List.range_succ]
      ·simp [List.range_succ]
      simp (maxSteps := 2000000) -implicitDefEqProofs [keys, callUpd, List.range_succ]
      refine EV.ret ?_
      simp only [thenK_ret, blockK_ret, scopeK_ret, bodyK_ret]
      subst e
      refine Fin.pure0 ?_
      first | (simp; done) | (simp <;> grind)
     ·try simp at k11
      obtain ⟨f11, e⟩ := neg_on2 e (by first | simpa using k11 | grind)
      try simp at f11
      refine EV.seq ?_
      refine EV.regionG tabOK ?_ -- region 15
      simp (maxSteps := 2000000) -implicitDefEqProofs
      refine EV.condT ?_
      simp -implicitDefEqProofs
      refine condT_intro (fun k13 => ?_) (fun k13 => ?_)
      ·try simp at k13
       obtain ⟨f13, e⟩ := pos_on2 e (by first | simpa using k13 | grind)
       try simp at f13
       refine EV.seq ?_
       have := spotT_len p0.s (by first | assumption | grind)
       have := dig_len p0.v.tag
       have := dig_len p0.v.s.local_
       have jl14 := joinS_le ([([111, 112, 101, 110] : List UInt8), (spotT p0.s), (dig p0.v.tag), (dig p0.v.s.local_)] : List (List UInt8))
       try simp only [lenS_nil, lenS_cons, lenS_app, List.length_append, List.length_cons, List.length_nil] at jl14
       refine EV.drawG tabOK mixedOK ?_ -- region 16
       simp (maxSteps := 2000000) -implicitDefEqProofs
       refine callG_fun (w_mSpotT' p0.s (by first | assumption | grind)) ?_ ?_
       ·simp
       simp (maxSteps := 2000000) -implicitDefEqProofs
       refine callG_fun (w_mNum' p0.v.tag (by first | assumption | exact inI64_of (by omega) (by omega))) ?_ ?_
       ·simp
       simp (maxSteps := 2000000) -implicitDefEqProofs
       refine callG_fun (w_mNum' p0.v.s.local_ (by first | assumption | exact inI64_of (by omega) (by omega))) ?_ ?_
       ·simp
       simp (maxSteps := 2000000) -implicitDefEqProofs
       refine callG_own [1] rfl (w_mWords 0 ([([111, 112, 101, 110] : List UInt8), (spotT p0.s), (dig p0.v.tag), (dig p0.v.s.local_)] : List (List UInt8)) (Nat.le_trans (joinS_le _) (by (try simp only [lenS_nil, lenS_cons, lenS_app, List.length_append, List.length_cons, List.length_nil]); omega)) (by (try simp only [lenS_nil, lenS_cons, lenS_app, List.length_append, List.length_cons, List.length_nil]); omega)) ?_ ?_ ?_ ?_ ?_ ?_
       ·simp [List.range_succ]
       ·simp [List.range_succ]
       ·simp [List.range_succ]
       ·simp [List.range_succ]
       ·simp [List.range_succ]
       simp (maxSteps := 2000000) -implicitDefEqProofs [keys, callUpd, List.range_succ]
       refine And.intro ?_ ?_
       ·first | decide +kernel | (simp -implicitDefEqProofs; decide +kernel) | (split <;> decide +kernel)
       try simp -implicitDefEqProofs
       refine EV.ret ?_
       simp only [thenK_ret, blockK_ret, scopeK_ret, bodyK_ret]
       subst e
       refine Fin.pure0 ?_
       first | (simp; done) | (simp <;> grind)
      ·try simp at k13
       obtain ⟨f13, e⟩ := neg_on2 e (by first | simpa using k13 | grind)
       try simp at f13
       refine EV.skip ?_
       simp only [thenK_normal, blockK_normal, scopeK_normal]
       refine EV.seq ?_
       refine EV.regionG tabOK ?_ -- region 17
       simp (maxSteps := 2000000) -implicitDefEqProofs
       refine EV.ret ?_
       simp only [thenK_ret, blockK_ret, scopeK_ret, bodyK_ret]
       subst e
       refine Fin.pure0 ?_
       first | (simp; done) | (simp <;> grind)
theorem mInT_eq (p0 : InD) : mInT p0 = inT p0 := by
 unfold mInT inT
 simp [joinS, bnd]
theorem w_mInT' (p0 : InD) (h : InOK p0) : QC prog 35 [.agg [.i .i64 p0.k, .i .i64 p0.at_, .i .i64 p0.s.local_, .ro 1 (p0.s.path.map (fun z => [.i .i64 z])), .i .i64 p0.v.k, .ro 5 (p0.v.uses.map useC), .i .i64 p0.v.s.local_, .ro 1 (p0.v.s.path.map (fun z => [.i .i64 z])), .i .i64 p0.v.which, .i .i64 p0.v.tag, .b p0.u.num, .i .i64 p0.u.n, .b p0.u.move, .i .i64 p0.u.s.local_, .ro 1 (p0.u.s.path.map (fun z => [.i .i64 z]))]] [] (.s (inT p0)) [] := by rw [← mInT_eq p0]; exact w_mInT p0 h
def mTmT_l21  : List Int → (List (List UInt8)) → (List (List UInt8))
 | [], a21_0 => a21_0
 | x21 :: xs21, a21_0 => mTmT_l21 xs21 (a21_0 ++ ([(dig x21)] : List (List UInt8)))
def mTmT (p0 : TmD) : (List UInt8) :=
 (Ctl.run ((if p0.k = 0 then .go ([([103, 111, 116, 111] : List UInt8)] : List (List UInt8)) else (if p0.k = 1 then .go ([([105, 102] : List UInt8), (useT p0.u)] : List (List UInt8)) else (if p0.k = 2 then .go ([([109, 97, 116, 99, 104] : List UInt8), (spotT p0.s)] : List (List UInt8)) else (if p0.k = 3 then .go ([([114, 101, 116, 117, 114, 110] : List UInt8), (useT p0.u)] : List (List UInt8)) else (if p0.k = 4 then .go ([([121, 105, 101, 108, 100] : List UInt8), (useT p0.u)] : List (List UInt8)) else (if p0.k = 5 then .go ([([97, 119, 97, 105, 116] : List UInt8), (spotT p0.s), (dig p0.v.s.local_)] : List (List UInt8)) else (if p0.k = 6 then .go ([([112, 111, 108, 108] : List UInt8), (spotT p0.s), (dig p0.v.s.local_)] : List (List UInt8)) else (if p0.k = 7 then .go ([([119, 97, 105, 116] : List UInt8), (spotT p0.s), (useT p0.u)] : List (List UInt8)) else .ret ([63] : List UInt8))))))))) : Ctl ((List UInt8)) ((List (List UInt8)))) fun (v4 : (List (List UInt8))) => (bnd (mTmT_l21 p0.to_ v4) fun (v21 : (List (List UInt8))) => (joinS v21)))
set_option maxHeartbeats 40000000 in
theorem w_mTmT (p0 : TmD) (h : TmOK p0) : QC prog 36 [.agg [.i .i64 p0.k, .i .i64 p0.at_, .i .i64 p0.s.local_, .ro 1 (p0.s.path.map (fun z => [.i .i64 z])), .i .i64 p0.v.k, .ro 5 (p0.v.uses.map useC), .i .i64 p0.v.s.local_, .ro 1 (p0.v.s.path.map (fun z => [.i .i64 z])), .i .i64 p0.v.which, .i .i64 p0.v.tag, .b p0.u.num, .i .i64 p0.u.n, .b p0.u.move, .i .i64 p0.u.s.local_, .ro 1 (p0.u.s.path.map (fun z => [.i .i64 z])), .ro 1 (p0.to_.map (fun z => [.i .i64 z]))]] [] (.s (mTmT p0)) [] := by
 refine QC.of_body tabOK func36 rfl (by kernel_rfl) ?_
 simp only [f36]
 generalize e : mTmT p0 = R
 unfold mTmT at e
 obtain ⟨h1, h2, h3, h4, h5⟩ := h
 have h0 := h1.1
 refine EV.seq ?_
 refine EV.regionG tabOK ?_ -- region 0
 simp (maxSteps := 2000000) -implicitDefEqProofs
 refine EV.seq ?_
 refine EV.regionG tabOK ?_ -- region 1
 simp (maxSteps := 2000000) -implicitDefEqProofs
 refine EV.seq ?_
 refine EV.seq ?_
 refine EV.regionG tabOK ?_ -- region 2
 simp (maxSteps := 2000000) -implicitDefEqProofs
 obtain ⟨z4, e4, e⟩ := run_split e
 refine EV.nrm (fun v : { v : ((List (List UInt8))) × (Unit) // z4 = .go v.1 ∧ (fun (v4 : (List (List UInt8))) => v4.length ≤ 3 ∧ lenS v4 ≤ 13000) v.1 } => (fun (v4 : (List (List UInt8))) (g4 : Unit) => (⟨[J, .ptr 0 0 0 0, J, .sl 1 0 0 v4.length, J, J, J, J, J, J, J, J, J, J, J, J, J, J, J, J, J, J, J, J, J, J, J, J, J, J, J, J, J, J, J, J, J, J, J, J, J, J, J, J, J, J, J, J, J, J, J, J, J, J, J, J, J, J, J, J, J, J, J, J, J, J, J, J, J, J, J, J, J, J, J, J, J, J, J, J, J], [.arr 0 16 [[.i .i64 p0.k, .i .i64 p0.at_, .i .i64 p0.s.local_, .ro 1 (p0.s.path.map (fun z => [.i .i64 z])), .i .i64 p0.v.k, .ro 5 (p0.v.uses.map useC), .i .i64 p0.v.s.local_, .ro 1 (p0.v.s.path.map (fun z => [.i .i64 z])), .i .i64 p0.v.which, .i .i64 p0.v.tag, .b p0.u.num, .i .i64 p0.u.n, .b p0.u.move, .i .i64 p0.u.s.local_, .ro 1 (p0.u.s.path.map (fun z => [.i .i64 z])), .ro 1 (p0.to_.map (fun z => [.i .i64 z]))]], .arr 0 1 (v4.map (fun z => [.s z]))]⟩ : St)) v.1.1 v.1.2) ?_ ?_
 ·skip
  refine EV.block ?_
  refine EV.seq ?_
  refine EV.regionG tabOK ?_ -- region 4
  simp (maxSteps := 2000000) -implicitDefEqProofs
  refine EV.condT ?_
  simp -implicitDefEqProofs
  refine condT_intro (fun k1 => ?_) (fun k1 => ?_)
  ·try simp at k1
   obtain ⟨f1, e4⟩ := pos_on2 e4 (by first | simpa using k1 | grind)
   try simp at f1
   refine EV.regionG tabOK ?_ -- region 5
   simp (maxSteps := 2000000) -implicitDefEqProofs
   refine ⟨⟨(([([103, 111, 116, 111] : List UInt8)] : List (List UInt8)), ()), e4.symm, by ((try dsimp only); refine ⟨?_, ?_⟩ <;> (try simp only [lenS_nil, lenS_cons, lenS_app, List.length_append, List.length_cons, List.length_nil]) <;> omega)⟩, ?_⟩
   try dsimp only
   refine Sub.cutF 2 (by simp) ?_ ?_ <;> simp [List.range_succ, toIdx_range, passed]
  ·try simp at k1
   obtain ⟨f1, e4⟩ := neg_on2 e4 (by first | simpa using k1 | grind)
   try simp at f1
   refine EV.seq ?_
   refine EV.regionG tabOK ?_ -- region 6
   simp (maxSteps := 2000000) -implicitDefEqProofs
   refine EV.condT ?_
   simp -implicitDefEqProofs
   refine condT_intro (fun k2 => ?_) (fun k2 => ?_)
   ·try simp at k2
    obtain ⟨f2, e4⟩ := pos_on2 e4 (by first | simpa using k2 | grind)
    try simp at f2
    have := useT_len p0.u (by first | assumption | grind)
    refine EV.regionG tabOK ?_ -- region 7
    simp (maxSteps := 2000000) -implicitDefEqProofs
    refine callG_fun (w_mUseT' p0.u (by first | assumption | grind)) ?_ ?_
    ·simp
    simp (maxSteps := 2000000) -implicitDefEqProofs
    refine ⟨⟨(([([105, 102] : List UInt8), (useT p0.u)] : List (List UInt8)), ()), e4.symm, by ((try dsimp only); refine ⟨?_, ?_⟩ <;> (try simp only [lenS_nil, lenS_cons, lenS_app, List.length_append, List.length_cons, List.length_nil]) <;> omega)⟩, ?_⟩
    try dsimp only
    refine Sub.cutF 2 (by simp) ?_ ?_ <;> simp [List.range_succ, toIdx_range, passed]
   ·try simp at k2
    obtain ⟨f2, e4⟩ := neg_on2 e4 (by first | simpa using k2 | grind)
    try simp at f2
    refine EV.seq ?_
    refine EV.regionG tabOK ?_ -- region 8
    simp (maxSteps := 2000000) -implicitDefEqProofs
    refine EV.condT ?_
    simp -implicitDefEqProofs
    refine condT_intro (fun k3 => ?_) (fun k3 => ?_)
    ·try simp at k3
     obtain ⟨f3, e4⟩ := pos_on2 e4 (by first | simpa using k3 | grind)
     try simp at f3
     have := spotT_len p0.s (by first | assumption | grind)
     refine EV.regionG tabOK ?_ -- region 9
     simp (maxSteps := 2000000) -implicitDefEqProofs
     refine callG_fun (w_mSpotT' p0.s (by first | assumption | grind)) ?_ ?_
     ·simp
     simp (maxSteps := 2000000) -implicitDefEqProofs
     refine ⟨⟨(([([109, 97, 116, 99, 104] : List UInt8), (spotT p0.s)] : List (List UInt8)), ()), e4.symm, by ((try dsimp only); refine ⟨?_, ?_⟩ <;> (try simp only [lenS_nil, lenS_cons, lenS_app, List.length_append, List.length_cons, List.length_nil]) <;> omega)⟩, ?_⟩
     try dsimp only
     refine Sub.cutF 2 (by simp) ?_ ?_ <;> simp [List.range_succ, toIdx_range, passed]
    ·try simp at k3
     obtain ⟨f3, e4⟩ := neg_on2 e4 (by first | simpa using k3 | grind)
     try simp at f3
     refine EV.seq ?_
     refine EV.regionG tabOK ?_ -- region 10
     simp (maxSteps := 2000000) -implicitDefEqProofs
     refine EV.condT ?_
     simp -implicitDefEqProofs
     refine condT_intro (fun k4 => ?_) (fun k4 => ?_)
     ·try simp at k4
      obtain ⟨f4, e4⟩ := pos_on2 e4 (by first | simpa using k4 | grind)
      try simp at f4
      have := useT_len p0.u (by first | assumption | grind)
      refine EV.regionG tabOK ?_ -- region 11
      simp (maxSteps := 2000000) -implicitDefEqProofs
      refine callG_fun (w_mUseT' p0.u (by first | assumption | grind)) ?_ ?_
      ·simp
      simp (maxSteps := 2000000) -implicitDefEqProofs
      refine ⟨⟨(([([114, 101, 116, 117, 114, 110] : List UInt8), (useT p0.u)] : List (List UInt8)), ()), e4.symm, by ((try dsimp only); refine ⟨?_, ?_⟩ <;> (try simp only [lenS_nil, lenS_cons, lenS_app, List.length_append, List.length_cons, List.length_nil]) <;> omega)⟩, ?_⟩
      try dsimp only
      refine Sub.cutF 2 (by simp) ?_ ?_ <;> simp [List.range_succ, toIdx_range, passed]
     ·try simp at k4
      obtain ⟨f4, e4⟩ := neg_on2 e4 (by first | simpa using k4 | grind)
      try simp at f4
      refine EV.seq ?_
      refine EV.regionG tabOK ?_ -- region 12
      simp (maxSteps := 2000000) -implicitDefEqProofs
      refine EV.condT ?_
      simp -implicitDefEqProofs
      refine condT_intro (fun k5 => ?_) (fun k5 => ?_)
      ·try simp at k5
       obtain ⟨f5, e4⟩ := pos_on2 e4 (by first | simpa using k5 | grind)
       try simp at f5
       have := useT_len p0.u (by first | assumption | grind)
       refine EV.regionG tabOK ?_ -- region 13
       simp (maxSteps := 2000000) -implicitDefEqProofs
       refine callG_fun (w_mUseT' p0.u (by first | assumption | grind)) ?_ ?_
       ·simp
       simp (maxSteps := 2000000) -implicitDefEqProofs
       refine ⟨⟨(([([121, 105, 101, 108, 100] : List UInt8), (useT p0.u)] : List (List UInt8)), ()), e4.symm, by ((try dsimp only); refine ⟨?_, ?_⟩ <;> (try simp only [lenS_nil, lenS_cons, lenS_app, List.length_append, List.length_cons, List.length_nil]) <;> omega)⟩, ?_⟩
       try dsimp only
       refine Sub.cutF 2 (by simp) ?_ ?_ <;> simp [List.range_succ, toIdx_range, passed]
      ·try simp at k5
       obtain ⟨f5, e4⟩ := neg_on2 e4 (by first | simpa using k5 | grind)
       try simp at f5
       refine EV.seq ?_
       refine EV.regionG tabOK ?_ -- region 14
       simp (maxSteps := 2000000) -implicitDefEqProofs
       refine EV.condT ?_
       simp -implicitDefEqProofs
       refine condT_intro (fun k6 => ?_) (fun k6 => ?_)
       ·try simp at k6
        obtain ⟨f6, e4⟩ := pos_on2 e4 (by first | simpa using k6 | grind)
        try simp at f6
        have := spotT_len p0.s (by first | assumption | grind)
        have := dig_len p0.v.s.local_
        refine EV.drawG tabOK mixedOK ?_ -- region 15
        simp (maxSteps := 2000000) -implicitDefEqProofs
        refine callG_fun (w_mSpotT' p0.s (by first | assumption | grind)) ?_ ?_
        ·simp
        simp (maxSteps := 2000000) -implicitDefEqProofs
        refine callG_fun (w_mNum' p0.v.s.local_ (by first | assumption | exact inI64_of (by omega) (by omega))) ?_ ?_
        ·simp
        simp (maxSteps := 2000000) -implicitDefEqProofs
        refine And.intro ?_ ?_
        ·first | decide +kernel | (simp -implicitDefEqProofs; decide +kernel) | (split <;> decide +kernel)
        try simp -implicitDefEqProofs
        refine ⟨⟨(([([97, 119, 97, 105, 116] : List UInt8), (spotT p0.s), (dig p0.v.s.local_)] : List (List UInt8)), ()), e4.symm, by ((try dsimp only); refine ⟨?_, ?_⟩ <;> (try simp only [lenS_nil, lenS_cons, lenS_app, List.length_append, List.length_cons, List.length_nil]) <;> omega)⟩, ?_⟩
        try dsimp only
        refine Sub.cutF 2 (by simp) ?_ ?_ <;> simp [List.range_succ, toIdx_range, passed]
       ·try simp at k6
        obtain ⟨f6, e4⟩ := neg_on2 e4 (by first | simpa using k6 | grind)
        try simp at f6
        refine EV.seq ?_
        refine EV.regionG tabOK ?_ -- region 16
        simp (maxSteps := 2000000) -implicitDefEqProofs
        refine EV.condT ?_
        simp -implicitDefEqProofs
        refine condT_intro (fun k7 => ?_) (fun k7 => ?_)
        ·try simp at k7
         obtain ⟨f7, e4⟩ := pos_on2 e4 (by first | simpa using k7 | grind)
         try simp at f7
         have := spotT_len p0.s (by first | assumption | grind)
         have := dig_len p0.v.s.local_
         refine EV.drawG tabOK mixedOK ?_ -- region 17
         simp (maxSteps := 2000000) -implicitDefEqProofs
         refine callG_fun (w_mSpotT' p0.s (by first | assumption | grind)) ?_ ?_
         ·simp
         simp (maxSteps := 2000000) -implicitDefEqProofs
         refine callG_fun (w_mNum' p0.v.s.local_ (by first | assumption | exact inI64_of (by omega) (by omega))) ?_ ?_
         ·simp
         simp (maxSteps := 2000000) -implicitDefEqProofs
         refine And.intro ?_ ?_
         ·first | decide +kernel | (simp -implicitDefEqProofs; decide +kernel) | (split <;> decide +kernel)
         try simp -implicitDefEqProofs
         refine ⟨⟨(([([112, 111, 108, 108] : List UInt8), (spotT p0.s), (dig p0.v.s.local_)] : List (List UInt8)), ()), e4.symm, by ((try dsimp only); refine ⟨?_, ?_⟩ <;> (try simp only [lenS_nil, lenS_cons, lenS_app, List.length_append, List.length_cons, List.length_nil]) <;> omega)⟩, ?_⟩
         try dsimp only
         refine Sub.cutF 2 (by simp) ?_ ?_ <;> simp [List.range_succ, toIdx_range, passed]
        ·try simp at k7
         obtain ⟨f7, e4⟩ := neg_on2 e4 (by first | simpa using k7 | grind)
         try simp at f7
         refine EV.seq ?_
         refine EV.regionG tabOK ?_ -- region 18
         simp (maxSteps := 2000000) -implicitDefEqProofs
         refine EV.condT ?_
         simp -implicitDefEqProofs
         refine condT_intro (fun k8 => ?_) (fun k8 => ?_)
         ·try simp at k8
          obtain ⟨f8, e4⟩ := pos_on2 e4 (by first | simpa using k8 | grind)
          try simp at f8
          have := spotT_len p0.s (by first | assumption | grind)
          have := useT_len p0.u (by first | assumption | grind)
          refine EV.drawG tabOK mixedOK ?_ -- region 19
          simp (maxSteps := 2000000) -implicitDefEqProofs
          refine callG_fun (w_mSpotT' p0.s (by first | assumption | grind)) ?_ ?_
          ·simp
          simp (maxSteps := 2000000) -implicitDefEqProofs
          refine callG_fun (w_mUseT' p0.u (by first | assumption | grind)) ?_ ?_
          ·simp
          simp (maxSteps := 2000000) -implicitDefEqProofs
          refine And.intro ?_ ?_
          ·first | decide +kernel | (simp -implicitDefEqProofs; decide +kernel) | (split <;> decide +kernel)
          try simp -implicitDefEqProofs
          refine ⟨⟨(([([119, 97, 105, 116] : List UInt8), (spotT p0.s), (useT p0.u)] : List (List UInt8)), ()), e4.symm, by ((try dsimp only); refine ⟨?_, ?_⟩ <;> (try simp only [lenS_nil, lenS_cons, lenS_app, List.length_append, List.length_cons, List.length_nil]) <;> omega)⟩, ?_⟩
          try dsimp only
          refine Sub.cutF 2 (by simp) ?_ ?_ <;> simp [List.range_succ, toIdx_range, passed]
         ·try simp at k8
          obtain ⟨f8, e4⟩ := neg_on2 e4 (by first | simpa using k8 | grind)
          try simp at f8
          refine EV.seq ?_
          refine EV.regionG tabOK ?_ -- region 3
          simp (maxSteps := 2000000) -implicitDefEqProofs
          refine EV.ret ?_
          simp only [thenK_ret, blockK_ret, scopeK_ret, bodyK_ret]
          replace e := run_back e e4
          subst e
          refine Fin.pure0 ?_
          first | (simp; done) | (simp <;> grind)
 ·skip
  rintro ⟨⟨v4, g4⟩, e4, p4⟩
  simp only [thenK_normal, blockK_normal, scopeK_normal, bodyK_normal]
  try dsimp only at p4
  replace e := run_on e e4
  try dsimp only at e
  refine EV.seq ?_
  refine EV.seq ?_
  refine EV.regionG tabOK ?_ -- region 20
  simp (maxSteps := 2000000) -implicitDefEqProofs
  obtain ⟨z21, e21, e⟩ := bnd_split e
  refine EV.nrm (fun v : { v : ((List (List UInt8))) × (Nat) // z21 = v.1 ∧ (fun (v21 : (List (List UInt8))) => v21.length ≤ 253 ∧ lenS v21 ≤ 20000) v.1 } => (fun (v21 : (List (List UInt8))) (g21 : Nat) => (⟨[J, J, J, .sl 1 g21 0 v21.length, J, J, J, J, J, J, J, J, J, J, J, J, J, J, J, J, J, J, J, J, J, J, J, J, J, J, J, J, J, J, J, J, J, J, J, J, J, J, J, J, J, J, J, J, J, J, J, J, J, J, J, J, J, J, J, J, J, J, J, J, J, J, J, J, J, J, J, J, J, J, J, J, J, J, J, J, J], [.arr 0 16 [[.i .i64 p0.k, .i .i64 p0.at_, .i .i64 p0.s.local_, .ro 1 (p0.s.path.map (fun z => [.i .i64 z])), .i .i64 p0.v.k, .ro 5 (p0.v.uses.map useC), .i .i64 p0.v.s.local_, .ro 1 (p0.v.s.path.map (fun z => [.i .i64 z])), .i .i64 p0.v.which, .i .i64 p0.v.tag, .b p0.u.num, .i .i64 p0.u.n, .b p0.u.move, .i .i64 p0.u.s.local_, .ro 1 (p0.u.s.path.map (fun z => [.i .i64 z])), .ro 1 (p0.to_.map (fun z => [.i .i64 z]))]], .arr g21 1 (v21.map (fun z => [.s z]))]⟩ : St)) v.1.1 v.1.2) ?_ ?_
  ·skip
   refine EV.block ?_
   refine EV.loopB (fun x : { x : Nat × (List (List UInt8)) × Nat // x.1 ≤ p0.to_.length ∧ mTmT_l21 (p0.to_.drop x.1) x.2.1 = z21 ∧ (fun (j21 : Nat) (a21_0 : List (List UInt8)) (a21_g0 : Nat) => a21_0.length ≤ 3 + j21 ∧ lenS a21_0 ≤ 13000 + j21 * 21) x.1 x.2.1 x.2.2 } => (fun (j21 : Nat) (a21_0 : List (List UInt8)) (a21_g0 : Nat) => (⟨[J, J, J, .sl 1 a21_g0 0 a21_0.length, J, J, J, J, J, J, J, J, J, J, J, J, J, J, J, J, J, J, J, J, J, J, J, J, J, J, J, J, J, J, J, J, J, J, J, J, J, J, J, J, J, J, J, J, J, J, J, J, J, J, J, J, J, J, J, J, J, J, J, J, J, J, J, .ro 1 (p0.to_.map (fun z => [.i .i64 z])), .i .i64 (p0.to_.length : Int), .i .i64 (j21 : Int), J, J, J, J, J, J, J, J, J, J, J], [.arr 0 16 [[.i .i64 p0.k, .i .i64 p0.at_, .i .i64 p0.s.local_, .ro 1 (p0.s.path.map (fun z => [.i .i64 z])), .i .i64 p0.v.k, .ro 5 (p0.v.uses.map useC), .i .i64 p0.v.s.local_, .ro 1 (p0.v.s.path.map (fun z => [.i .i64 z])), .i .i64 p0.v.which, .i .i64 p0.v.tag, .b p0.u.num, .i .i64 p0.u.n, .b p0.u.move, .i .i64 p0.u.s.local_, .ro 1 (p0.u.s.path.map (fun z => [.i .i64 z])), .ro 1 (p0.to_.map (fun z => [.i .i64 z]))]], .arr a21_g0 1 (a21_0.map (fun z => [.s z]))]⟩ : St)) x.1.1 x.1.2.1 x.1.2.2) (fun x => p0.to_.length - x.1.1) ⟨(0, v4, 0), Nat.zero_le _, e21, by ((try dsimp only); refine ⟨?_, ?_⟩ <;> (try simp only [lenS_nil, lenS_cons, lenS_app, List.length_append, List.length_cons, List.length_nil]) <;> omega)⟩ ?_ ?_
   ·skip
    try dsimp only
    try dsimp only
    refine Sub.cutF 2 (by simp) ?_ ?_ <;> simp [List.range_succ, toIdx_range, passed]
   ·skip
    rintro ⟨⟨j21, a21_0, a21_g0⟩, hi21, e21, q21⟩
    simp only at hi21 e21 ⊢
    try dsimp only at q21
    refine EV.seq ?_
    refine EV.regionG tabOK ?_ -- region 21
    simp (maxSteps := 2000000) -implicitDefEqProofs
    refine EV.seq ?_
    refine EV.room 67 (by rfl) (fun mj21 => ?_)
    simp at mj21
    refine EV.condT ?_
    simp -implicitDefEqProofs
    refine condT_intro (fun k9 => ?_) (fun k9 => ?_)
    ·try simp at k9
     have u9 : j21 < p0.to_.length := by omega
     obtain ⟨x21, hx21⟩ : ∃ z, p0.to_[j21] = z := ⟨_, rfl⟩
     have mx21 : x21 ∈ p0.to_ := by rw [← hx21]; exact List.getElem_mem _
     have hv21 := h5 x21 mx21
     rw [List.drop_eq_getElem_cons u9, hx21, mTmT_l21] at e21
     refine EV.skip ?_
     simp only [thenK_normal, blockK_normal, scopeK_normal]
     refine EV.seq ?_
     refine EV.block ?_
     refine EV.seq ?_
     refine EV.regionG tabOK ?_ -- region 22
     simp (maxSteps := 2000000) -implicitDefEqProofs [k9, u9, hx21]
     have := dig_len x21
     have r10 : roomFor (a21_0.length + 1) 16 := room_of (by omega) (by decide)
     refine EV.regionG tabOK ?_ -- region 23
     simp (maxSteps := 2000000) -implicitDefEqProofs [k9, u9, hx21, r10]
     refine callG_fun (w_mNum' x21 (by first | assumption | exact inI64_of (by omega) (by omega))) ?_ ?_
     ·first | (simp; done) | (simp [k9, u9, hx21, r10]; done)
     simp (maxSteps := 2000000) -implicitDefEqProofs [k9, u9, hx21, r10]
     refine EV.regionG tabOK ?_ -- region 24
     simp (maxSteps := 2000000) -implicitDefEqProofs [k9, u9, hx21, r10]
     have w21 : IntKind.i64.wrap ((j21 : Int) + 1) = (j21 : Int) + 1 := wrap_in _ (by omega) (by omega)
     refine ⟨⟨(j21 + 1, (a21_0 ++ ([(dig x21)] : List (List UInt8))), (a21_g0 + 1)), by omega, e21, by ((try dsimp only); refine ⟨?_, ?_⟩ <;> (try simp only [lenS_nil, lenS_cons, lenS_app, List.length_append, List.length_cons, List.length_nil]) <;> omega)⟩, by dsimp only; omega, ?_⟩
     try dsimp only
     refine Sub.cutF 2 (by simp) ?_ ?_ <;> simp [List.range_succ, toIdx_range, passed, k9, u9, hx21, r10, w21]
    ·try simp at k9
     have d9 : p0.to_.drop j21 = [] := List.drop_eq_nil_of_le (by omega)
     rw [d9, mTmT_l21] at e21
     refine EV.exit ?_
     simp -implicitDefEqProofs
     refine ⟨⟨(a21_0, a21_g0), e21.symm, by ((try dsimp only); refine ⟨?_, ?_⟩ <;> omega)⟩, ?_⟩
     try dsimp only
     refine Sub.cutF 2 (by simp) ?_ ?_ <;> simp [List.range_succ, toIdx_range, passed]
  ·skip
   rintro ⟨⟨v21, g21⟩, e21, p21⟩
   simp only [thenK_normal, blockK_normal, scopeK_normal, bodyK_normal]
   try dsimp only at p21
   replace e := bnd_on e e21
   try dsimp only at e
   refine EV.seq ?_
   have jl11 := joinS_le v21
   try simp only [lenS_nil, lenS_cons, lenS_app, List.length_append, List.length_cons, List.length_nil] at jl11
   refine EV.regionG tabOK ?_ -- region 25
   simp (maxSteps := 2000000) -implicitDefEqProofs
   refine callG_own [1] rfl (w_mWords g21 v21 (Nat.le_trans (joinS_le _) (by (try simp only [lenS_nil, lenS_cons, lenS_app, List.length_append, List.length_cons, List.length_nil]); omega)) (by (try simp only [lenS_nil, lenS_cons, lenS_app, List.length_append, List.length_cons, List.length_nil]); omega)) ?_ ?_ ?_ ?_ ?_ ?_
   ·simp [List.range_succ]
   ·simp [List.range_succ]
   ·simp [List.range_succ]
   ·simp [List.range_succ]
   ·simp [List.range_succ]
   simp (maxSteps := 2000000) -implicitDefEqProofs [keys, callUpd, List.range_succ]
   refine EV.ret ?_
   simp only [thenK_ret, blockK_ret, scopeK_ret, bodyK_ret]
   subst e
   refine Fin.pure0 ?_
   first | (simp; done) | (simp <;> grind)
theorem mTmT_eq (p0 : TmD) : mTmT p0 = tmT p0 := by
 have h : ∀ (l : List Int) (a : List (List UInt8)), mTmT_l21 l a = a ++ l.map dig := by
  intro l
  induction l with
  | nil => intro a; simp [mTmT_l21]
  | cons x l ih => intro a; simp [mTmT_l21, ih]
 unfold mTmT tmT tmW
 simp only [bnd, h]
 by_cases h0 : p0.k = 0
 ·simp [h0, Ctl.run, joinS, Function.comp_def]
 by_cases h1 : p0.k = 1
 ·simp [h1, Ctl.run, joinS, Function.comp_def]
 by_cases h2 : p0.k = 2
 ·simp [h2, Ctl.run, joinS, Function.comp_def]
 by_cases h3 : p0.k = 3
 ·simp [h3, Ctl.run, joinS, Function.comp_def]
 by_cases h4 : p0.k = 4
 ·simp [h4, Ctl.run, joinS, Function.comp_def]
 by_cases h5 : p0.k = 5
 ·simp [h5, Ctl.run, joinS, Function.comp_def]
 by_cases h6 : p0.k = 6
 ·simp [h6, Ctl.run, joinS, Function.comp_def]
 by_cases h7 : p0.k = 7
 ·simp [h7, Ctl.run, joinS, Function.comp_def]
 rw [if_neg (show ¬ (0 ≤ p0.k ∧ p0.k ≤ 7) by omega)]
 simp [h0, h1, h2, h3, h4, h5, h6, h7, Ctl.run]
theorem w_mTmT' (p0 : TmD) (h : TmOK p0) : QC prog 36 [.agg [.i .i64 p0.k, .i .i64 p0.at_, .i .i64 p0.s.local_, .ro 1 (p0.s.path.map (fun z => [.i .i64 z])), .i .i64 p0.v.k, .ro 5 (p0.v.uses.map useC), .i .i64 p0.v.s.local_, .ro 1 (p0.v.s.path.map (fun z => [.i .i64 z])), .i .i64 p0.v.which, .i .i64 p0.v.tag, .b p0.u.num, .i .i64 p0.u.n, .b p0.u.move, .i .i64 p0.u.s.local_, .ro 1 (p0.u.s.path.map (fun z => [.i .i64 z])), .ro 1 (p0.to_.map (fun z => [.i .i64 z]))]] [] (.s (tmT p0)) [] := by rw [← mTmT_eq p0]; exact w_mTmT p0 h

def tTypeB (p0 : TyD) : (List UInt8) :=
 (Ctl.run ((if p0.k = 1 then .ret ([105, 110, 116] : List UInt8) else (bnd (if p0.k = 2 then true else (decide (p0.k = 3))) fun (v6 : Bool) => (if v6 = true then .ret p0.name else (if p0.k = 7 then .ret (([99, 111, 32] : List UInt8) ++ p0.name) else (if p0.k = 4 then .go ([98, 111, 120, 32] : List UInt8) else (if p0.k = 5 then .go ([38] : List UInt8) else (if p0.k = 6 then .go ([38, 109, 117, 116, 32] : List UInt8) else .go ([] : List UInt8)))))))) : Ctl ((List UInt8)) ((List UInt8))) fun (v3 : (List UInt8)) => (if (v3 = ([] : List UInt8)) ∨ (¬ ((p0.l.length : Int) = 1)) then ([63] : List UInt8) else (bnd (p0.l.getD 0 default) fun (y18_3 : TyD) => (v3 ++ (tyT y18_3)))))
set_option maxHeartbeats 40000000 in
theorem w_tTypeB (p0 : TyD) (hz : tyN p0 ≤ 1048576) (H : ∀ u : TyD, tyN u < tyN p0 → QC prog 34 [.agg [.i .i64 u.k, .s u.name, .ro 3 (u.l.map tyC)]] [] (.s (tyT u)) []) : QC prog 34 [.agg [.i .i64 p0.k, .s p0.name, .ro 3 (p0.l.map tyC)]] [] (.s (tTypeB p0)) [] := by
 refine QC.of_body tabOK func34 rfl (by kernel_rfl) ?_
 simp only [f34]
 generalize e : tTypeB p0 = R
 unfold tTypeB at e
 have hn := tyN_eq p0
 refine EV.seq ?_
 refine EV.regionG tabOK ?_ -- region 0
 simp (maxSteps := 2000000) -implicitDefEqProofs
 refine EV.seq ?_
 refine EV.regionG tabOK ?_ -- region 1
 simp (maxSteps := 2000000) -implicitDefEqProofs
 refine EV.seq ?_
 refine EV.seq ?_
 refine EV.regionG tabOK ?_ -- region 2
 simp (maxSteps := 2000000) -implicitDefEqProofs
 obtain ⟨z3, e3, e⟩ := run_split e
 refine EV.nrm (fun v : { v : ((List UInt8)) × (Unit) // z3 = .go v.1 ∧ (fun (v3 : (List UInt8)) => v3.length ≤ 5) v.1 } => (fun (v3 : (List UInt8)) (g3 : Unit) => (⟨[J, .ptr 0 0 0 0, J, .s v3, J, J, J, J, J, J, J, J, J, J, J, J, J, J, J, J, J, J, J, J, J, J, J, J, J, J, J, J, J, J, J, J, J, J, J], [.arr 0 3 [[.i .i64 p0.k, .s p0.name, .ro 3 (p0.l.map tyC)]]]⟩ : St)) v.1.1 v.1.2) ?_ ?_
 ·skip
  refine EV.block ?_
  refine EV.seq ?_
  refine EV.regionG tabOK ?_ -- region 3
  simp (maxSteps := 2000000) -implicitDefEqProofs
  refine EV.condT ?_
  simp -implicitDefEqProofs
  refine condT_intro (fun k1 => ?_) (fun k1 => ?_)
  ·try simp at k1
   obtain ⟨f1, e3⟩ := pos_on2 e3 (by first | simpa using k1 | grind)
   try simp at f1
   refine EV.seq ?_
   refine EV.regionG tabOK ?_ -- region 4
   simp (maxSteps := 2000000) -implicitDefEqProofs
   refine EV.ret ?_
   simp only [thenK_ret, blockK_ret, scopeK_ret, bodyK_ret]
   replace e := run_back e e3
   subst e
   refine Fin.pure0 ?_
   first | (simp; done) | (simp <;> grind)
  ·try simp at k1
   obtain ⟨f1, e3⟩ := neg_on2 e3 (by first | simpa using k1 | grind)
   try simp at f1
   refine EV.seq ?_
   refine EV.seq ?_
   refine EV.regionG tabOK ?_ -- region 5
   simp (maxSteps := 2000000) -implicitDefEqProofs
   obtain ⟨z6, e6, e3⟩ := bnd_split e3
   refine EV.nrm (fun v : { v : (Bool) × (Unit) // z6 = v.1 } => (fun (v6 : Bool) (g6 : Unit) => (⟨[J, .ptr 0 0 0 0, J, .s ([] : List UInt8), J, .i .i64 p0.k, J, J, .b v6, J, J, J, J, J, J, J, J, J, J, J, J, J, J, J, J, J, J, J, J, J, J, J, J, J, J, J, J, J, J], [.arr 0 3 [[.i .i64 p0.k, .s p0.name, .ro 3 (p0.l.map tyC)]]]⟩ : St)) v.1.1 v.1.2) ?_ ?_
   ·skip
    refine EV.condT ?_
    simp -implicitDefEqProofs
    refine condT_intro (fun k2 => ?_) (fun k2 => ?_)
    ·try simp at k2
     obtain ⟨f2, e6⟩ := pos_on2 e6 (by first | simpa using k2 | grind)
     try simp at f2
     refine EV.skip ?_
     simp only [thenK_normal, blockK_normal, scopeK_normal]
     refine ⟨⟨(true, ()), e6.symm⟩, ?_⟩
     try dsimp only
     refine Sub.cutF 1 (by simp) ?_ ?_ <;> simp [List.range_succ, toIdx_range, passed]
    ·try simp at k2
     obtain ⟨f2, e6⟩ := neg_on2 e6 (by first | simpa using k2 | grind)
     try simp at f2
     refine EV.regionG tabOK ?_ -- region 6
     simp (maxSteps := 2000000) -implicitDefEqProofs
     refine ⟨⟨((decide (p0.k = 3)), ()), e6.symm⟩, ?_⟩
     try dsimp only
     refine Sub.cutF 1 (by simp) ?_ ?_ <;> simp [List.range_succ, toIdx_range, passed]
   ·skip
    rintro ⟨⟨v6, g6⟩, e6⟩
    simp only [thenK_normal, blockK_normal, scopeK_normal, bodyK_normal]
    replace e3 := bnd_on e3 e6
    try dsimp only at e3
    refine EV.condT ?_
    simp -implicitDefEqProofs
    refine condT_intro (fun k3 => ?_) (fun k3 => ?_)
    ·try simp at k3
     obtain ⟨f3, e3⟩ := pos_on2 e3 (by first | simpa using k3 | grind)
     try simp at f3
     refine EV.seq ?_
     refine EV.regionG tabOK ?_ -- region 7
     simp (maxSteps := 2000000) -implicitDefEqProofs
     refine EV.ret ?_
     simp only [thenK_ret, blockK_ret, scopeK_ret, bodyK_ret]
     replace e := run_back e e3
     subst e
     refine Fin.pure0 ?_
     first | (simp; done) | (simp <;> grind)
    ·try simp at k3
     obtain ⟨f3, e3⟩ := neg_on2 e3 (by first | simpa using k3 | grind)
     try simp at f3
     refine EV.seq ?_
     refine EV.regionG tabOK ?_ -- region 8
     simp (maxSteps := 2000000) -implicitDefEqProofs
     refine EV.condT ?_
     simp -implicitDefEqProofs
     refine condT_intro (fun k4 => ?_) (fun k4 => ?_)
     ·try simp at k4
      obtain ⟨f4, e3⟩ := pos_on2 e3 (by first | simpa using k4 | grind)
      try simp at f4
      refine EV.seq ?_
      have ct5 : (([99, 111, 32] : List UInt8)).length + (p0.name).length ≤ 9223372036854775807 := by (first | omega | (simp; omega))
      try simp at ct5
      refine EV.regionG tabOK ?_ -- region 9
      simp (maxSteps := 2000000) -implicitDefEqProofs [ct5]
      refine EV.ret ?_
      simp only [thenK_ret, blockK_ret, scopeK_ret, bodyK_ret]
      replace e := run_back e e3
      subst e
      refine Fin.pure0 ?_
      first | (simp; done) | (simp <;> grind)
     ·try simp at k4
      obtain ⟨f4, e3⟩ := neg_on2 e3 (by first | simpa using k4 | grind)
      try simp at f4
      refine EV.seq ?_
      refine EV.regionG tabOK ?_ -- region 10
      simp (maxSteps := 2000000) -implicitDefEqProofs
      refine EV.condT ?_
      simp -implicitDefEqProofs
      refine condT_intro (fun k6 => ?_) (fun k6 => ?_)
      ·try simp at k6
       obtain ⟨f6, e3⟩ := pos_on2 e3 (by first | simpa using k6 | grind)
       try simp at f6
       refine EV.regionG tabOK ?_ -- region 11
       simp (maxSteps := 2000000) -implicitDefEqProofs
       refine ⟨⟨(([98, 111, 120, 32] : List UInt8), ()), e3.symm, by ((try dsimp only); first | omega | assumption | (simp; done) | (simp; omega))⟩, ?_⟩
       try dsimp only
       refine Sub.cutF 1 (by simp) ?_ ?_ <;> simp [List.range_succ, toIdx_range, passed]
      ·try simp at k6
       obtain ⟨f6, e3⟩ := neg_on2 e3 (by first | simpa using k6 | grind)
       try simp at f6
       refine EV.seq ?_
       refine EV.regionG tabOK ?_ -- region 12
       simp (maxSteps := 2000000) -implicitDefEqProofs
       refine EV.condT ?_
       simp -implicitDefEqProofs
       refine condT_intro (fun k7 => ?_) (fun k7 => ?_)
       ·try simp at k7
        obtain ⟨f7, e3⟩ := pos_on2 e3 (by first | simpa using k7 | grind)
        try simp at f7
        refine EV.regionG tabOK ?_ -- region 13
        simp (maxSteps := 2000000) -implicitDefEqProofs
        refine ⟨⟨(([38] : List UInt8), ()), e3.symm, by ((try dsimp only); first | omega | assumption | (simp; done) | (simp; omega))⟩, ?_⟩
        try dsimp only
        refine Sub.cutF 1 (by simp) ?_ ?_ <;> simp [List.range_succ, toIdx_range, passed]
       ·try simp at k7
        obtain ⟨f7, e3⟩ := neg_on2 e3 (by first | simpa using k7 | grind)
        try simp at f7
        refine EV.seq ?_
        refine EV.regionG tabOK ?_ -- region 14
        simp (maxSteps := 2000000) -implicitDefEqProofs
        refine EV.condT ?_
        simp -implicitDefEqProofs
        refine condT_intro (fun k8 => ?_) (fun k8 => ?_)
        ·try simp at k8
         obtain ⟨f8, e3⟩ := pos_on2 e3 (by first | simpa using k8 | grind)
         try simp at f8
         refine EV.regionG tabOK ?_ -- region 15
         simp (maxSteps := 2000000) -implicitDefEqProofs
         refine ⟨⟨(([38, 109, 117, 116, 32] : List UInt8), ()), e3.symm, by ((try dsimp only); first | omega | assumption | (simp; done) | (simp; omega))⟩, ?_⟩
         try dsimp only
         refine Sub.cutF 1 (by simp) ?_ ?_ <;> simp [List.range_succ, toIdx_range, passed]
        ·try simp at k8
         obtain ⟨f8, e3⟩ := neg_on2 e3 (by first | simpa using k8 | grind)
         try simp at f8
         refine EV.skip ?_
         simp only [thenK_normal, blockK_normal, scopeK_normal]
         refine ⟨⟨(([] : List UInt8), ()), e3.symm, by ((try dsimp only); first | omega | assumption | (simp; done) | (simp; omega))⟩, ?_⟩
         try dsimp only
         refine Sub.cutF 1 (by simp) ?_ ?_ <;> simp [List.range_succ, toIdx_range, passed]
 ·skip
  rintro ⟨⟨v3, g3⟩, e3, p3⟩
  simp only [thenK_normal, blockK_normal, scopeK_normal, bodyK_normal]
  try dsimp only at p3
  replace e := run_on e e3
  try dsimp only at e
  refine EV.seq ?_
  refine EV.seq ?_
  refine EV.regionG tabOK ?_ -- region 16
  simp (maxSteps := 2000000) -implicitDefEqProofs +contextual
  refine EV.condT ?_
  simp -implicitDefEqProofs
  refine condT_intro (fun k9 => ?_) (fun k9 => ?_)
  ·try simp at k9
   obtain ⟨f9, e⟩ := pos_on2 e (by first | simpa using k9 | grind)
   try simp at f9
   refine EV.seq ?_
   refine EV.regionG tabOK ?_ -- region 17
   simp (maxSteps := 2000000) -implicitDefEqProofs
   refine EV.ret ?_
   simp only [thenK_ret, blockK_ret, scopeK_ret, bodyK_ret]
   subst e
   refine Fin.pure0 ?_
   first | (simp; done) | (simp <;> grind)
  ·try simp at k9
   obtain ⟨f9, e⟩ := neg_on2 e (by first | simpa using k9 | grind)
   try simp at f9
   refine EV.skip ?_
   simp only [thenK_normal, blockK_normal, scopeK_normal]
   refine EV.seq ?_
   obtain ⟨y18_3, gy18_3⟩ : ∃ z, (p0.l.getD 0 default) = z := ⟨_, rfl⟩
   replace e := bnd_on e gy18_3
   try dsimp only at e
   have b10 : 0 ≤ 0 ∧ 0 < (p0.l.length : Int) := by omega
   have c10 : 0 < p0.l.length := by omega
   have hy18_3 : p0.l[0] = y18_3 := by rw [← gy18_3, List.getD_eq_getElem?_getD, List.getElem?_eq_getElem c10]; rfl
   have my18_3 : y18_3 ∈ p0.l := by rw [← hy18_3]; exact List.getElem_mem _
   have := tyT_len y18_3
   have := tyN_mem (u := y18_3) (t := p0) (by assumption)
   have ct11 : (v3).length + ((tyT y18_3)).length ≤ 9223372036854775807 := by (first | omega | (simp; omega))
   try simp at ct11
   refine EV.regionG tabOK ?_ -- region 18
   simp (maxSteps := 2000000) -implicitDefEqProofs [b10, c10, hy18_3, ct11]
   refine callG_fun (H y18_3 (by have := tyN_mem (by assumption); omega)) ?_ ?_
   ·first | (simp; done) | (simp [b10, c10, hy18_3, ct11]; done)
   simp (maxSteps := 2000000) -implicitDefEqProofs [b10, c10, hy18_3, ct11]
   refine EV.ret ?_
   simp only [thenK_ret, blockK_ret, scopeK_ret, bodyK_ret]
   subst e
   refine Fin.pure0 ?_
   first | (simp; done) | (simp <;> grind)

theorem tyT_one (k : Int) (nm : List UInt8) (x : TyD) : tyT ⟨k, nm, [x]⟩ = if k = 1 then [105, 110, 116] else if k = 2 ∨ k = 3 then nm else if k = 7 then [99, 111, 32] ++ nm else if k = 4 then [98, 111, 120, 32] ++ tyT x else if k = 5 then [38] ++ tyT x else if k = 6 then [38, 109, 117, 116, 32] ++ tyT x else [63] := by
 rw [tyT]
theorem tyT_not (k : Int) (nm : List UInt8) (l : List TyD) (h : l.length ≠ 1) : tyT ⟨k, nm, l⟩ = if k = 1 then [105, 110, 116] else if k = 2 ∨ k = 3 then nm else if k = 7 then [99, 111, 32] ++ nm else [63] := by
 rw [tyT]
 intro a b c hh
 simp at hh
 obtain ⟨_, _, rfl⟩ := hh
 simp at h
theorem tTypeB_eq (p0 : TyD) : tTypeB p0 = tyT p0 := by
 obtain ⟨k, nm, l⟩ := p0
 by_cases hl : l.length = 1
 ·match l, hl with
  | [x], _ =>
   rw [tyT_one]
   unfold tTypeB
   by_cases h1 : k = 1
   ·subst h1; simp [Ctl.run, bnd]
   by_cases h2 : k = 2
   ·subst h2; simp [Ctl.run, bnd]
   by_cases h3 : k = 3
   ·subst h3; simp [Ctl.run, bnd]
   by_cases h7 : k = 7
   ·subst h7; simp [Ctl.run, bnd]
   by_cases h4 : k = 4
   ·subst h4; simp [Ctl.run, bnd]
   by_cases h5 : k = 5
   ·subst h5; simp [Ctl.run, bnd]
   by_cases h6 : k = 6
   ·subst h6; simp [Ctl.run, bnd]
   simp [h1, h2, h3, h7, h4, h5, h6, Ctl.run, bnd]
 ·rw [tyT_not _ _ _ hl]
  have hl2 : ¬ ((l.length : Int) = 1) := by omega
  unfold tTypeB
  by_cases h1 : k = 1
  ·subst h1; simp [Ctl.run, bnd]
  by_cases h2 : k = 2
  ·subst h2; simp [Ctl.run, bnd]
  by_cases h3 : k = 3
  ·subst h3; simp [Ctl.run, bnd]
  by_cases h7 : k = 7
  ·subst h7; simp [Ctl.run, bnd]
  by_cases h4 : k = 4
  ·subst h4; simp [Ctl.run, bnd, hl2]
  by_cases h5 : k = 5
  ·subst h5; simp [Ctl.run, bnd, hl2]
  by_cases h6 : k = 6
  ·subst h6; simp [Ctl.run, bnd, hl2]
  simp [h1, h2, h3, h7, h4, h5, h6, Ctl.run, bnd]
theorem w_tType : ∀ (m : Nat) (p0 : TyD), tyN p0 ≤ m → m ≤ 1048576 → QC prog 34 [.agg [.i .i64 p0.k, .s p0.name, .ro 3 (p0.l.map tyC)]] [] (.s (tyT p0)) []
 | m, p0, h1, h2 => by
  rw [← tTypeB_eq]
  exact w_tTypeB p0 (by omega) fun u hu => w_tType (m - 1) u (by omega) (by omega)
 termination_by m p0 => tyN p0
def mTextB_l5  : List LocalD → Nat → (List UInt8) → (List UInt8)
 | [], _, a5_0 => a5_0
 | x5 :: xs5, j5, a5_0 => mTextB_l5 xs5 (j5 + 1) (a5_0 ++ ([9] : List UInt8) ++ (joinS ([(dig (j5 : Int)), x5.name, (tyT x5.ty)] : List (List UInt8))) ++ [10])
def mTextB_l14  : List InD → (List UInt8) → (List UInt8)
 | [], a14_0 => a14_0
 | x14 :: xs14, a14_0 => mTextB_l14 xs14 (a14_0 ++ ([9] : List UInt8) ++ (inT x14) ++ [10])
def mTextB_l10  : List BlockD → Nat → (List UInt8) → (List UInt8)
 | [], _, a10_0 => a10_0
 | x10 :: xs10, j10, a10_0 => (bnd (mTextB_l14 x10.ins (a10_0 ++ (joinS ([([98, 108, 111, 99, 107] : List UInt8), (dig (j10 : Int))] : List (List UInt8))) ++ [10])) fun (v14 : (List UInt8)) => mTextB_l10 xs10 (j10 + 1) (v14 ++ ([9] : List UInt8) ++ (tmT x10.end_) ++ [10]))
def mTextB (p0 : BodyD) : (List UInt8) :=
 (bnd (mTextB_l5 p0.locals 0 ((joinS ([p0.name, (dig p0.params)] : List (List UInt8))) ++ [10])) fun (v5 : (List UInt8)) => (bnd (mTextB_l10 p0.blocks 0 v5) fun (v10 : (List UInt8)) => v10))
set_option maxHeartbeats 40000000 in
theorem w_mTextB (p0 : BodyD) (h : BodyOK p0) : QC prog 15 [.agg [.s p0.name, .i .i64 p0.params, .ro 4 (p0.locals.map localC), .ro 17 (p0.blocks.map blockC)]] [] (.s (mTextB p0)) [] := by
 refine QC.of_body tabOK func15 rfl (by kernel_rfl) ?_
 simp only [f15]
 generalize e : mTextB p0 = R
 unfold mTextB at e
 have h1 := h.nm
 have h2 := h.pr
 have h3 := h.ll
 have h4 := h.bl
 refine EV.seq ?_
 refine EV.regionG tabOK ?_ -- region 0
 simp (maxSteps := 2000000) -implicitDefEqProofs
 refine EV.seq ?_
 refine EV.regionG tabOK ?_ -- region 1
 simp (maxSteps := 2000000) -implicitDefEqProofs
 refine EV.seq ?_
 refine EV.regionG tabOK ?_ -- region 2
 simp (maxSteps := 2000000) -implicitDefEqProofs
 refine EV.seq ?_
 have := dig_len p0.params
 have jl1 := joinS_le ([p0.name, (dig p0.params)] : List (List UInt8))
 try simp only [lenS_nil, lenS_cons, lenS_app, List.length_append, List.length_cons, List.length_nil] at jl1
 refine EV.drawG tabOK mixedOK ?_ -- region 3
 simp (maxSteps := 2000000) -implicitDefEqProofs
 refine callG_fun (w_mNum' p0.params (by first | assumption | exact inI64_of (by omega) (by omega))) ?_ ?_
 ·simp
 simp (maxSteps := 2000000) -implicitDefEqProofs
 refine callG_own [2] rfl (w_mWords 0 ([p0.name, (dig p0.params)] : List (List UInt8)) (Nat.le_trans (joinS_le _) (by (try simp only [lenS_nil, lenS_cons, lenS_app, List.length_append, List.length_cons, List.length_nil]); omega)) (by (try simp only [lenS_nil, lenS_cons, lenS_app, List.length_append, List.length_cons, List.length_nil]); omega)) ?_ ?_ ?_ ?_ ?_ ?_
 ·simp [List.range_succ]
 ·simp [List.range_succ]
 ·simp [List.range_succ]
 ·simp [List.range_succ]
 ·simp [List.range_succ]
 simp (maxSteps := 2000000) -implicitDefEqProofs [keys, callUpd, List.range_succ]
 refine callG_own [3, 1] rfl (w_ln1n (joinS ([p0.name, (dig p0.params)] : List (List UInt8))) (by first | omega | (simp at *; omega))) ?_ ?_ ?_ ?_ ?_ ?_
 ·simp [Nat.add_assoc, List.range_succ]
 ·simp [Nat.add_assoc, List.range_succ]
 ·simp [Nat.add_assoc, List.range_succ]
 ·simp [Nat.add_assoc, List.range_succ]
 ·simp [Nat.add_assoc, List.range_succ]
 simp (maxSteps := 2000000) -implicitDefEqProofs [keys, callUpd, List.range_succ]
 refine And.intro ?_ ?_
 ·first | decide +kernel | (simp -implicitDefEqProofs; decide +kernel) | (split <;> decide +kernel)
 try simp -implicitDefEqProofs
 refine EV.seq ?_
 refine EV.seq ?_
 refine EV.regionG tabOK ?_ -- region 4
 simp (maxSteps := 2000000) -implicitDefEqProofs
 obtain ⟨z5, e5, e⟩ := bnd_split e
 refine EV.nrm (fun v : { v : ((List UInt8)) × (Nat) // z5 = v.1 ∧ (fun (v5 : (List UInt8)) => 0 < v5.length ∧ v5.length ≤ 2000000000) v.1 } => (fun (v5 : (List UInt8)) (g5 : Nat) => (⟨[J, .ptr 0 0 0 0, J, .ptr 1 0 0 0, .fn 29 [.ptr 1 0 0 0], J, J, J, J, J, J, J, J, J, J, J, J, J, J, J, J, J, J, J, J, J, J, J, J, J, J, J, J, J, J, J, J, J, J, J, J, J, J, J, J, J, J, J, J, J, J, J, J, J, J, J, J, J, J, J, J, J, J, J, J, J, J, J, J, J, J, J, J, J, J, J, J, J, J], [.arr 0 4 [[.s p0.name, .i .i64 p0.params, .ro 4 (p0.locals.map localC), .ro 17 (p0.blocks.map blockC)]], .var 98 [.ptr 1 0 0 0, .sl 4 g5 0 v5.length], .arr 0 1 [[.s p0.name], [.s (dig p0.params)]], .arr 0 1 [[.s (joinS ([p0.name, (dig p0.params)] : List (List UInt8)))]], .row 5 g5 (v5.map byteV)]⟩ : St)) v.1.1 v.1.2) ?_ ?_
 ·skip
  refine EV.block ?_
  refine EV.loopB (fun x : { x : Nat × (List UInt8) × Nat // x.1 ≤ p0.locals.length ∧ mTextB_l5 (p0.locals.drop x.1) x.1 x.2.1 = z5 ∧ (fun (j5 : Nat) (a5_0 : List UInt8) (a5_g0 : Nat) => 0 < a5_0.length ∧ a5_0.length ≤ 1100000 + j5 * 7000000) x.1 x.2.1 x.2.2 } => (fun (j5 : Nat) (a5_0 : List UInt8) (a5_g0 : Nat) => (⟨[J, .ptr 0 0 0 0, J, .ptr 1 0 0 0, .fn 29 [.ptr 1 0 0 0], J, J, J, J, J, J, J, J, J, J, J, J, J, J, J, J, J, J, .ro 4 (p0.locals.map localC), .i .i64 (p0.locals.length : Int), .i .i64 (j5 : Int), J, J, J, J, J, J, J, J, J, J, J, J, J, J, J, J, J, J, J, J, J, J, J, J, J, J, J, J, J, J, J, J, J, J, J, J, J, J, J, J, J, J, J, J, J, J, J, J, J, J, J, J, J], [.arr 0 4 [[.s p0.name, .i .i64 p0.params, .ro 4 (p0.locals.map localC), .ro 17 (p0.blocks.map blockC)]], .var 98 [.ptr 1 0 0 0, .sl 4 a5_g0 0 a5_0.length], .arr 0 1 [[.s p0.name], [.s (dig p0.params)]], .arr 0 1 [[.s (joinS ([p0.name, (dig p0.params)] : List (List UInt8)))]], .row 5 a5_g0 (a5_0.map byteV)]⟩ : St)) x.1.1 x.1.2.1 x.1.2.2) (fun x => p0.locals.length - x.1.1) ⟨(0, ((joinS ([p0.name, (dig p0.params)] : List (List UInt8))) ++ [10]), 1), Nat.zero_le _, e5, by ((try dsimp only); first | omega | assumption | (simp; done) | (simp; assumption) | (simp; omega) | (simp at *; omega) | simp_all)⟩ ?_ ?_
  ·skip
   try dsimp only
   try dsimp only
   refine Sub.cutF 5 (by simp) ?_ ?_ <;> simp [List.range_succ, toIdx_range, passed]
  ·skip
   rintro ⟨⟨j5, a5_0, a5_g0⟩, hi5, e5, q5⟩
   simp only at hi5 e5 ⊢
   try dsimp only at q5
   refine EV.seq ?_
   refine EV.regionG tabOK ?_ -- region 5
   simp (maxSteps := 2000000) -implicitDefEqProofs
   refine EV.seq ?_
   refine EV.room 23 (by rfl) (fun mj5 => ?_)
   simp at mj5
   refine EV.condT ?_
   simp -implicitDefEqProofs
   refine condT_intro (fun k2 => ?_) (fun k2 => ?_)
   ·try simp at k2
    have u2 : j5 < p0.locals.length := by omega
    obtain ⟨x5, hx5⟩ : ∃ z, p0.locals[j5] = z := ⟨_, rfl⟩
    have mx5 : x5 ∈ p0.locals := by rw [← hx5]; exact List.getElem_mem _
    obtain ⟨q1, q2⟩ := h.lo x5 mx5
    rw [List.drop_eq_getElem_cons u2, hx5, mTextB_l5] at e5
    refine EV.skip ?_
    simp only [thenK_normal, blockK_normal, scopeK_normal]
    refine EV.seq ?_
    refine EV.block ?_
    refine EV.seq ?_
    refine EV.regionG tabOK ?_ -- region 6
    simp (maxSteps := 2000000) -implicitDefEqProofs [k2, u2, hx5]
    have := dig_len (j5 : Int)
    have := tyT_len x5.ty
    have jl3 := joinS_le ([(dig (j5 : Int)), x5.name, (tyT x5.ty)] : List (List UInt8))
    try simp only [lenS_nil, lenS_cons, lenS_app, List.length_append, List.length_cons, List.length_nil] at jl3
    refine EV.drawG tabOK mixedOK ?_ -- region 7
    simp (maxSteps := 2000000) -implicitDefEqProofs [k2, u2, hx5]
    refine callG_fun (w_mNum' (j5 : Int) (by first | assumption | exact inI64_of (by omega) (by omega))) ?_ ?_
    ·first | (simp; done) | (simp [k2, u2, hx5]; done)
    simp (maxSteps := 2000000) -implicitDefEqProofs [k2, u2, hx5]
    refine callG_fun (w_tType 1048576 x5.ty (by first | assumption | omega) (Nat.le_refl _)) ?_ ?_
    ·first | (simp; done) | (simp [k2, u2, hx5]; done)
    simp (maxSteps := 2000000) -implicitDefEqProofs [k2, u2, hx5]
    refine callG_own [6] rfl (w_mWords 0 ([(dig (j5 : Int)), x5.name, (tyT x5.ty)] : List (List UInt8)) (Nat.le_trans (joinS_le _) (by (try simp only [lenS_nil, lenS_cons, lenS_app, List.length_append, List.length_cons, List.length_nil]); omega)) (by (try simp only [lenS_nil, lenS_cons, lenS_app, List.length_append, List.length_cons, List.length_nil]); omega)) ?_ ?_ ?_ ?_ ?_ ?_
    ·simp [List.range_succ]
    ·simp [List.range_succ]
    ·simp [List.range_succ]
    ·simp [List.range_succ]
    ·simp [List.range_succ]
    simp (maxSteps := 2000000) -implicitDefEqProofs [k2, u2, hx5, keys, callUpd, List.range_succ]
    refine callG_own [7, 1, 4] rfl (w_ln2r a5_g0 a5_0 ([9] : List UInt8) (joinS ([(dig (j5 : Int)), x5.name, (tyT x5.ty)] : List (List UInt8))) (by first | omega | (simp at *; omega))) ?_ ?_ ?_ ?_ ?_ ?_
    ·simp [Nat.add_assoc, List.range_succ]
    ·simp [Nat.add_assoc, List.range_succ]
    ·simp [Nat.add_assoc, List.range_succ]
    ·simp [Nat.add_assoc, List.range_succ]
    ·simp [Nat.add_assoc, List.range_succ]
    simp (maxSteps := 2000000) -implicitDefEqProofs [k2, u2, hx5, keys, callUpd, List.range_succ]
    refine And.intro ?_ ?_
    ·first | decide +kernel | (simp -implicitDefEqProofs; decide +kernel) | (split <;> decide +kernel)
    try simp -implicitDefEqProofs
    refine EV.regionG tabOK ?_ -- region 8
    simp (maxSteps := 2000000) -implicitDefEqProofs [k2, u2, hx5]
    have w5 : IntKind.i64.wrap ((j5 : Int) + 1) = (j5 : Int) + 1 := wrap_in _ (by omega) (by omega)
    refine ⟨⟨(j5 + 1, (a5_0 ++ ([9] : List UInt8) ++ (joinS ([(dig (j5 : Int)), x5.name, (tyT x5.ty)] : List (List UInt8))) ++ [10]), (a5_g0 + 1 + 1 + 1)), by omega, e5, by ((try dsimp only); first | omega | assumption | (simp; done) | (simp; assumption) | (simp; omega) | (simp at *; omega) | simp_all)⟩, by dsimp only; omega, ?_⟩
    try dsimp only
    refine Sub.cutF 5 (by simp) ?_ ?_ <;> simp [List.range_succ, toIdx_range, passed, k2, u2, hx5, w5]
   ·try simp at k2
    have d2 : p0.locals.drop j5 = [] := List.drop_eq_nil_of_le (by omega)
    rw [d2, mTextB_l5] at e5
    refine EV.exit ?_
    simp -implicitDefEqProofs
    refine ⟨⟨(a5_0, a5_g0), e5.symm, by ((try dsimp only); first | omega | assumption | (simp; done) | (simp; assumption) | (simp; omega) | (simp at *; omega) | simp_all)⟩, ?_⟩
    try dsimp only
    refine Sub.cutF 5 (by simp) ?_ ?_ <;> simp [List.range_succ, toIdx_range, passed]
 ·skip
  rintro ⟨⟨v5, g5⟩, e5, p5⟩
  simp only [thenK_normal, blockK_normal, scopeK_normal, bodyK_normal]
  try dsimp only at p5
  replace e := bnd_on e e5
  try dsimp only at e
  refine EV.seq ?_
  refine EV.seq ?_
  refine EV.regionG tabOK ?_ -- region 9
  simp (maxSteps := 2000000) -implicitDefEqProofs
  obtain ⟨z10, e10, e⟩ := bnd_split e
  refine EV.nrm (fun v : { v : ((List UInt8)) × (Nat) // z10 = v.1 ∧ (fun (v10 : (List UInt8)) => 0 < v10.length ∧ v10.length ≤ 200000000000) v.1 } => (fun (v10 : (List UInt8)) (g10 : Nat) => (⟨[J, J, J, .ptr 1 0 0 0, J, J, J, J, J, J, J, J, J, J, J, J, J, J, J, J, J, J, J, J, J, J, J, J, J, J, J, J, J, J, J, J, J, J, J, J, J, J, J, J, J, J, J, J, J, J, J, J, J, J, J, J, J, J, J, J, J, J, J, J, J, J, J, J, J, J, J, J, J, J, J, J, J, J, J], [.arr 0 4 [[.s p0.name, .i .i64 p0.params, .ro 4 (p0.locals.map localC), .ro 17 (p0.blocks.map blockC)]], .var 98 [.ptr 1 0 0 0, .sl 4 g10 0 v10.length], .arr 0 1 [[.s p0.name], [.s (dig p0.params)]], .arr 0 1 [[.s (joinS ([p0.name, (dig p0.params)] : List (List UInt8)))]], .row 5 g10 (v10.map byteV)]⟩ : St)) v.1.1 v.1.2) ?_ ?_
  ·skip
   refine EV.block ?_
   refine EV.loopB (fun x : { x : Nat × (List UInt8) × Nat // x.1 ≤ p0.blocks.length ∧ mTextB_l10 (p0.blocks.drop x.1) x.1 x.2.1 = z10 ∧ (fun (j10 : Nat) (a10_0 : List UInt8) (a10_g0 : Nat) => 0 < a10_0.length ∧ a10_0.length ≤ 2000000000 + j10 * 430000000) x.1 x.2.1 x.2.2 } => (fun (j10 : Nat) (a10_0 : List UInt8) (a10_g0 : Nat) => (⟨[J, J, J, .ptr 1 0 0 0, .fn 29 [.ptr 1 0 0 0], J, J, J, J, J, J, J, J, J, J, J, J, J, J, J, J, J, J, J, J, J, J, J, J, J, J, J, J, J, J, J, J, J, J, J, J, J, J, J, .ro 17 (p0.blocks.map blockC), .i .i64 (p0.blocks.length : Int), .i .i64 (j10 : Int), J, J, J, J, J, J, J, J, J, J, J, J, J, J, J, J, J, J, J, J, J, J, J, J, J, J, J, J, J, J, J, J], [.arr 0 4 [[.s p0.name, .i .i64 p0.params, .ro 4 (p0.locals.map localC), .ro 17 (p0.blocks.map blockC)]], .var 98 [.ptr 1 0 0 0, .sl 4 a10_g0 0 a10_0.length], .arr 0 1 [[.s p0.name], [.s (dig p0.params)]], .arr 0 1 [[.s (joinS ([p0.name, (dig p0.params)] : List (List UInt8)))]], .row 5 a10_g0 (a10_0.map byteV)]⟩ : St)) x.1.1 x.1.2.1 x.1.2.2) (fun x => p0.blocks.length - x.1.1) ⟨(0, v5, g5), Nat.zero_le _, e10, by ((try dsimp only); first | omega | assumption | (simp; done) | (simp; assumption) | (simp; omega) | (simp at *; omega) | simp_all)⟩ ?_ ?_
   ·skip
    try dsimp only
    try dsimp only
    refine Sub.cutF 5 (by simp) ?_ ?_ <;> simp [List.range_succ, toIdx_range, passed]
   ·skip
    rintro ⟨⟨j10, a10_0, a10_g0⟩, hi10, e10, q10⟩
    simp only at hi10 e10 ⊢
    try dsimp only at q10
    refine EV.seq ?_
    refine EV.regionG tabOK ?_ -- region 10
    simp (maxSteps := 2000000) -implicitDefEqProofs
    refine EV.seq ?_
    refine EV.room 44 (by rfl) (fun mj10 => ?_)
    simp at mj10
    refine EV.condT ?_
    simp -implicitDefEqProofs
    refine condT_intro (fun k4 => ?_) (fun k4 => ?_)
    ·try simp at k4
     have u4 : j10 < p0.blocks.length := by omega
     obtain ⟨x10, hx10⟩ : ∃ z, p0.blocks[j10] = z := ⟨_, rfl⟩
     have mx10 : x10 ∈ p0.blocks := by rw [← hx10]; exact List.getElem_mem _
     obtain ⟨q3, q4, q5⟩ := h.bo x10 mx10
     rw [List.drop_eq_getElem_cons u4, hx10, mTextB_l10] at e10
     refine EV.skip ?_
     simp only [thenK_normal, blockK_normal, scopeK_normal]
     refine EV.seq ?_
     refine EV.block ?_
     refine EV.seq ?_
     refine EV.regionG tabOK ?_ -- region 11
     simp (maxSteps := 2000000) -implicitDefEqProofs [k4, u4, hx10]
     refine EV.seq ?_
     have := dig_len (j10 : Int)
     have jl5 := joinS_le ([([98, 108, 111, 99, 107] : List UInt8), (dig (j10 : Int))] : List (List UInt8))
     try simp only [lenS_nil, lenS_cons, lenS_app, List.length_append, List.length_cons, List.length_nil] at jl5
     refine EV.regionG tabOK ?_ -- region 12
     simp (maxSteps := 2000000) -implicitDefEqProofs [k4, u4, hx10]
     refine callG_fun (w_mNum' (j10 : Int) (by first | assumption | exact inI64_of (by omega) (by omega))) ?_ ?_
     ·first | (simp; done) | (simp [k4, u4, hx10]; done)
     simp (maxSteps := 2000000) -implicitDefEqProofs [k4, u4, hx10]
     refine callG_own [6] rfl (w_mWords 0 ([([98, 108, 111, 99, 107] : List UInt8), (dig (j10 : Int))] : List (List UInt8)) (Nat.le_trans (joinS_le _) (by (try simp only [lenS_nil, lenS_cons, lenS_app, List.length_append, List.length_cons, List.length_nil]); omega)) (by (try simp only [lenS_nil, lenS_cons, lenS_app, List.length_append, List.length_cons, List.length_nil]); omega)) ?_ ?_ ?_ ?_ ?_ ?_
     ·simp [List.range_succ]
     ·simp [List.range_succ]
     ·simp [List.range_succ]
     ·simp [List.range_succ]
     ·simp [List.range_succ]
     simp (maxSteps := 2000000) -implicitDefEqProofs [k4, u4, hx10, keys, callUpd, List.range_succ]
     refine callG_own [7, 1, 4] rfl (w_ln1r a10_g0 a10_0 (joinS ([([98, 108, 111, 99, 107] : List UInt8), (dig (j10 : Int))] : List (List UInt8))) (by first | omega | (simp at *; omega))) ?_ ?_ ?_ ?_ ?_ ?_
     ·simp [Nat.add_assoc, List.range_succ]
     ·simp [Nat.add_assoc, List.range_succ]
     ·simp [Nat.add_assoc, List.range_succ]
     ·simp [Nat.add_assoc, List.range_succ]
     ·simp [Nat.add_assoc, List.range_succ]
     simp (maxSteps := 2000000) -implicitDefEqProofs [k4, u4, hx10, keys, callUpd, List.range_succ]
     refine EV.seq ?_
     refine EV.seq ?_
     refine EV.regionG tabOK ?_ -- region 13
     simp (maxSteps := 2000000) -implicitDefEqProofs [k4, u4, hx10]
     obtain ⟨z14, e14, e10⟩ := bnd_split e10
     refine EV.nrm (fun v : { v : ((List UInt8)) × (Nat) // z14 = v.1 ∧ (fun (v14 : (List UInt8)) => 0 < v14.length ∧ v14.length ≤ a10_0.length + 30 + 250 * 1700010) v.1 } => (fun (v14 : (List UInt8)) (g14 : Nat) => (⟨[J, J, J, .ptr 1 0 0 0, .fn 29 [.ptr 1 0 0 0], J, J, J, .ptr 5 0 0 0, J, J, J, J, J, J, J, J, J, J, J, J, J, J, J, J, J, J, J, J, J, J, J, J, J, J, J, J, J, J, J, J, J, J, J, .ro 17 (p0.blocks.map blockC), .i .i64 (p0.blocks.length : Int), .i .i64 (j10 : Int), J, J, J, J, J, J, J, J, J, J, J, J, J, J, J, J, J, J, J, J, J, J, J, J, J, J, J, J, J, J, J, J], [.arr 0 4 [[.s p0.name, .i .i64 p0.params, .ro 4 (p0.locals.map localC), .ro 17 (p0.blocks.map blockC)]], .var 98 [.ptr 1 0 0 0, .sl 4 g14 0 v14.length], .arr 0 1 [[.s p0.name], [.s (dig p0.params)]], .arr 0 1 [[.s (joinS ([p0.name, (dig p0.params)] : List (List UInt8)))]], .row 5 g14 (v14.map byteV), .arr 0 17 [[.ro 15 (x10.ins.map inC), .i .i64 x10.end_.k, .i .i64 x10.end_.at_, .i .i64 x10.end_.s.local_, .ro 1 (x10.end_.s.path.map (fun z => [.i .i64 z])), .i .i64 x10.end_.v.k, .ro 5 (x10.end_.v.uses.map useC), .i .i64 x10.end_.v.s.local_, .ro 1 (x10.end_.v.s.path.map (fun z => [.i .i64 z])), .i .i64 x10.end_.v.which, .i .i64 x10.end_.v.tag, .b x10.end_.u.num, .i .i64 x10.end_.u.n, .b x10.end_.u.move, .i .i64 x10.end_.u.s.local_, .ro 1 (x10.end_.u.s.path.map (fun z => [.i .i64 z])), .ro 1 (x10.end_.to_.map (fun z => [.i .i64 z]))]]]⟩ : St)) v.1.1 v.1.2) ?_ ?_
     ·skip
      refine EV.block ?_
      refine EV.loopB (fun x : { x : Nat × (List UInt8) × Nat // x.1 ≤ x10.ins.length ∧ mTextB_l14 (x10.ins.drop x.1) x.2.1 = z14 ∧ (fun (j14 : Nat) (a14_0 : List UInt8) (a14_g0 : Nat) => 0 < a14_0.length ∧ a14_0.length ≤ a10_0.length + 30 + j14 * 1700010) x.1 x.2.1 x.2.2 } => (fun (j14 : Nat) (a14_0 : List UInt8) (a14_g0 : Nat) => (⟨[J, J, J, .ptr 1 0 0 0, .fn 29 [.ptr 1 0 0 0], J, J, J, .ptr 5 0 0 0, J, J, J, J, J, J, J, J, J, J, J, J, J, J, J, J, J, J, J, J, J, J, J, J, J, J, J, J, J, J, J, J, J, J, J, .ro 17 (p0.blocks.map blockC), .i .i64 (p0.blocks.length : Int), .i .i64 (j10 : Int), J, J, J, J, J, J, J, J, J, J, J, J, .ro 15 (x10.ins.map inC), .i .i64 (x10.ins.length : Int), .i .i64 (j14 : Int), J, J, J, J, J, J, J, J, J, J, J, J, J, J, J, J, J], [.arr 0 4 [[.s p0.name, .i .i64 p0.params, .ro 4 (p0.locals.map localC), .ro 17 (p0.blocks.map blockC)]], .var 98 [.ptr 1 0 0 0, .sl 4 a14_g0 0 a14_0.length], .arr 0 1 [[.s p0.name], [.s (dig p0.params)]], .arr 0 1 [[.s (joinS ([p0.name, (dig p0.params)] : List (List UInt8)))]], .row 5 a14_g0 (a14_0.map byteV), .arr 0 17 [[.ro 15 (x10.ins.map inC), .i .i64 x10.end_.k, .i .i64 x10.end_.at_, .i .i64 x10.end_.s.local_, .ro 1 (x10.end_.s.path.map (fun z => [.i .i64 z])), .i .i64 x10.end_.v.k, .ro 5 (x10.end_.v.uses.map useC), .i .i64 x10.end_.v.s.local_, .ro 1 (x10.end_.v.s.path.map (fun z => [.i .i64 z])), .i .i64 x10.end_.v.which, .i .i64 x10.end_.v.tag, .b x10.end_.u.num, .i .i64 x10.end_.u.n, .b x10.end_.u.move, .i .i64 x10.end_.u.s.local_, .ro 1 (x10.end_.u.s.path.map (fun z => [.i .i64 z])), .ro 1 (x10.end_.to_.map (fun z => [.i .i64 z]))]]]⟩ : St)) x.1.1 x.1.2.1 x.1.2.2) (fun x => x10.ins.length - x.1.1) ⟨(0, (a10_0 ++ (joinS ([([98, 108, 111, 99, 107] : List UInt8), (dig (j10 : Int))] : List (List UInt8))) ++ [10]), (a10_g0 + 1 + 1)), Nat.zero_le _, e14, by ((try dsimp only); first | omega | assumption | (simp; done) | (simp; assumption) | (simp; omega) | (simp at *; omega) | simp_all)⟩ ?_ ?_
      ·skip
       try dsimp only
       try dsimp only
       refine Sub.cutF 6 (by simp) ?_ ?_ <;> simp [List.range_succ, toIdx_range, passed, k4, u4, hx10]
      ·skip
       rintro ⟨⟨j14, a14_0, a14_g0⟩, hi14, e14, q14⟩
       simp only at hi14 e14 ⊢
       try dsimp only at q14
       refine EV.seq ?_
       refine EV.regionG tabOK ?_ -- region 14
       simp (maxSteps := 2000000) -implicitDefEqProofs [k4, u4, hx10]
       refine EV.seq ?_
       refine EV.room 59 (by rfl) (fun mj14 => ?_)
       simp at mj14
       refine EV.condT ?_
       simp -implicitDefEqProofs [k4, u4, hx10]
       refine condT_intro (fun k6 => ?_) (fun k6 => ?_)
       ·try simp at k6
        have u6 : j14 < x10.ins.length := by omega
        obtain ⟨x14, hx14⟩ : ∃ z, x10.ins[j14] = z := ⟨_, rfl⟩
        have mx14 : x14 ∈ x10.ins := by rw [← hx14]; exact List.getElem_mem _
        have q6 := q4 x14 mx14
        rw [List.drop_eq_getElem_cons u6, hx14, mTextB_l14] at e14
        refine EV.skip ?_
        simp only [thenK_normal, blockK_normal, scopeK_normal]
        refine EV.seq ?_
        refine EV.block ?_
        refine EV.seq ?_
        refine EV.regionG tabOK ?_ -- region 15
        simp (maxSteps := 2000000) -implicitDefEqProofs [k4, u4, hx10, k6, u6, hx14]
        have := inT_len x14 (by first | assumption | grind)
        refine EV.regionG tabOK ?_ -- region 16
        simp (maxSteps := 2000000) -implicitDefEqProofs [k4, u4, hx10, k6, u6, hx14]
        refine callG_fun (w_mInT' x14 (by first | assumption | grind)) ?_ ?_
        ·first | (simp; done) | (simp [k4, u4, hx10, k6, u6, hx14]; done)
        simp (maxSteps := 2000000) -implicitDefEqProofs [k4, u4, hx10, k6, u6, hx14]
        refine callG_own [7, 1, 4] rfl (w_ln2r a14_g0 a14_0 ([9] : List UInt8) (inT x14) (by first | omega | (simp at *; omega))) ?_ ?_ ?_ ?_ ?_ ?_
        ·simp [Nat.add_assoc, List.range_succ]
        ·simp [Nat.add_assoc, List.range_succ]
        ·simp [Nat.add_assoc, List.range_succ]
        ·simp [Nat.add_assoc, List.range_succ]
        ·simp [Nat.add_assoc, List.range_succ]
        simp (maxSteps := 2000000) -implicitDefEqProofs [k4, u4, hx10, k6, u6, hx14, keys, callUpd, List.range_succ]
        refine EV.regionG tabOK ?_ -- region 17
        simp (maxSteps := 2000000) -implicitDefEqProofs [k4, u4, hx10, k6, u6, hx14]
        have w14 : IntKind.i64.wrap ((j14 : Int) + 1) = (j14 : Int) + 1 := wrap_in _ (by omega) (by omega)
        refine ⟨⟨(j14 + 1, (a14_0 ++ ([9] : List UInt8) ++ (inT x14) ++ [10]), (a14_g0 + 1 + 1 + 1)), by omega, e14, by ((try dsimp only); first | omega | assumption | (simp; done) | (simp; assumption) | (simp; omega) | (simp at *; omega) | simp_all)⟩, by dsimp only; omega, ?_⟩
        try dsimp only
        refine Sub.cutF 6 (by simp) ?_ ?_ <;> simp [List.range_succ, toIdx_range, passed, k4, u4, hx10, k6, u6, hx14, w14]
       ·try simp at k6
        have d6 : x10.ins.drop j14 = [] := List.drop_eq_nil_of_le (by omega)
        rw [d6, mTextB_l14] at e14
        refine EV.exit ?_
        simp -implicitDefEqProofs
        refine ⟨⟨(a14_0, a14_g0), e14.symm, by ((try dsimp only); first | omega | assumption | (simp; done) | (simp; assumption) | (simp; omega) | (simp at *; omega) | simp_all)⟩, ?_⟩
        try dsimp only
        refine Sub.cutF 6 (by simp) ?_ ?_ <;> simp [List.range_succ, toIdx_range, passed, k4, u4, hx10]
     ·skip
      rintro ⟨⟨v14, g14⟩, e14, p14⟩
      simp only [thenK_normal, blockK_normal, scopeK_normal, bodyK_normal]
      try dsimp only at p14
      replace e10 := bnd_on e10 e14
      try dsimp only at e10
      have := tmT_len x10.end_ (by first | assumption | grind)
      refine EV.regionG tabOK ?_ -- region 18
      simp (maxSteps := 2000000) -implicitDefEqProofs [k4, u4, hx10]
      refine callG_fun (w_mTmT' x10.end_ (by first | assumption | grind)) ?_ ?_
      ·first | (simp; done) | (simp [k4, u4, hx10]; done)
      simp (maxSteps := 2000000) -implicitDefEqProofs [k4, u4, hx10]
      refine callG_own [6, 1, 4] rfl (w_ln2r g14 v14 ([9] : List UInt8) (tmT x10.end_) (by first | omega | (simp at *; omega))) ?_ ?_ ?_ ?_ ?_ ?_
      ·simp [Nat.add_assoc, List.range_succ]
      ·simp [Nat.add_assoc, List.range_succ]
      ·simp [Nat.add_assoc, List.range_succ]
      ·simp [Nat.add_assoc, List.range_succ]
      ·simp [Nat.add_assoc, List.range_succ]
      simp (maxSteps := 2000000) -implicitDefEqProofs [k4, u4, hx10, keys, callUpd, List.range_succ]
      refine EV.regionG tabOK ?_ -- region 19
      simp (maxSteps := 2000000) -implicitDefEqProofs [k4, u4, hx10]
      have w10 : IntKind.i64.wrap ((j10 : Int) + 1) = (j10 : Int) + 1 := wrap_in _ (by omega) (by omega)
      refine ⟨⟨(j10 + 1, (v14 ++ ([9] : List UInt8) ++ (tmT x10.end_) ++ [10]), (g14 + 1 + 1 + 1)), by omega, e10, by ((try dsimp only); first | omega | assumption | (simp; done) | (simp; assumption) | (simp; omega) | (simp at *; omega) | simp_all)⟩, by dsimp only; omega, ?_⟩
      try dsimp only
      refine Sub.cutF 5 (by simp) ?_ ?_ <;> simp [List.range_succ, toIdx_range, passed, k4, u4, hx10, w10]
    ·try simp at k4
     have d4 : p0.blocks.drop j10 = [] := List.drop_eq_nil_of_le (by omega)
     rw [d4, mTextB_l10] at e10
     refine EV.exit ?_
     simp -implicitDefEqProofs
     refine ⟨⟨(a10_0, a10_g0), e10.symm, by ((try dsimp only); first | omega | assumption | (simp; done) | (simp; assumption) | (simp; omega) | (simp at *; omega) | simp_all)⟩, ?_⟩
     try dsimp only
     refine Sub.cutF 5 (by simp) ?_ ?_ <;> simp [List.range_succ, toIdx_range, passed]
  ·skip
   rintro ⟨⟨v10, g10⟩, e10, p10⟩
   simp only [thenK_normal, blockK_normal, scopeK_normal, bodyK_normal]
   try dsimp only at p10
   replace e := bnd_on e e10
   try dsimp only at e
   refine EV.seq ?_
   refine EV.regionG tabOK ?_ -- region 20
   simp (maxSteps := 2000000) -implicitDefEqProofs
   refine callG_own [1, 4] rfl (walk35r g10 v10 (List.ne_nil_of_length_pos (by first | omega | (simp at *; omega))) (.ptr 0 0 0 0)) ?_ ?_ ?_ ?_ ?_ ?_
   ·simp [Nat.add_assoc, List.range_succ]
   ·simp [Nat.add_assoc, List.range_succ]
   ·simp [Nat.add_assoc, List.range_succ]
   ·simp [Nat.add_assoc, List.range_succ]
   ·simp [Nat.add_assoc, List.range_succ]
   simp (maxSteps := 2000000) -implicitDefEqProofs [keys, callUpd, List.range_succ]
   refine EV.ret ?_
   simp only [thenK_ret, blockK_ret, scopeK_ret, bodyK_ret]
   subst e
   refine Fin.pure0 ?_
   first | (simp; done) | (simp <;> grind)

theorem mTextB_eq (p0 : BodyD) : mTextB p0 = textT p0 := by
 have h1 : ∀ (l : List LocalD) (j : Nat) (a : List UInt8), mTextB_l5 l j a = a ++ locT j l := by
  intro l
  induction l with
  | nil => intro j a; simp [mTextB_l5, locT]
  | cons x l ih => intro j a; simp [mTextB_l5, locT, ih, joinS]
 have h2 : ∀ (l : List InD) (a : List UInt8), mTextB_l14 l a = a ++ insT l := by
  intro l
  induction l with
  | nil => intro a; simp [mTextB_l14, insT]
  | cons x l ih => intro a; simp [mTextB_l14, insT, ih]
 have h3 : ∀ (l : List BlockD) (j : Nat) (a : List UInt8), mTextB_l10 l j a = a ++ blkT j l := by
  intro l
  induction l with
  | nil => intro j a; simp [mTextB_l10, blkT]
  | cons x l ih => intro j a; simp [mTextB_l10, blkT, ih, h2, bnd, joinS]
 unfold mTextB textT
 simp [bnd, h1, h3, joinS]
end
end Go.Proofs.Tryd
end
