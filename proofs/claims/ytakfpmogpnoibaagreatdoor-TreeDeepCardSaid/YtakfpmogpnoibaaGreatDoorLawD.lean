/- What is valid stays so in a while, till it is too deep; what is not stays so: TreeDeep, tied. No conditions. -/
import Derived.Test.YtakfpmogpnoibaaGreatDoorTie
import Derived.Test.YtakfpmogpnoibaaGreatDoorCards
import Derived.ProofKit
import Derived.OpenShut
import Derived.LaidMore
import Derived.Lay
import Derived.SevenTiedAt
import Derived.Stop.Joined
import Derived.Stop.LaidErr
import Derived.Test.YtakfpmogpnoibaaGreatDoorRefA
import Derived.Test.YtakfpmogpnoibaaGreatDoorValU
import Derived.Test.YtakfpmogpnoibaaGreatDoorBldA
import Derived.Test.YtakfpmogpnoibaaGreatDoorPlaB
import Derived.Test.YtakfpmogpnoibaaGreatDoorMachD
set_option linter.unusedVariables false
set_option linter.unusedSimpArgs false
set_option linter.constructorNameAsVariable false
section
namespace Go.Proofs.Tryz
open Go Go.AM
attribute [local simp] wpG_op wpG_nil contG_some wpG_guard guardG_v guardG_o guardG_tup gval pureOp stepG_if isPick pickG_pick pickB_b pickOK isCall step_move step_assign step_alloc step_box boxV_some step_load step_store step_binOp step_unOp step_fieldAddr faV step_indexAddr ixA_slc ixA_arr step_extract extV_tup step_nilCheck ncV_ptr ncV_rp ncV_fn ncV_mp step_build buildV step_buildSlice bsV step_index ixV_arr ixV_str step_append apB step_makeSlice msV_i step_makeFunc over step_len step_makeMap mmV step_mapUpdate step_insert muA_map muB_mp step_lookup lkA_map lkB_mp step_slice slcV_s slcV_sl slcV_ro cutB_some slObV_arr bound_none bound_some bndV_i lenB_str lenB_ro lenB_sl lenB_nil lenB_z ld_ptr ld_rp offV_ptr offV_rp idxV_ro idxV_sl unV_not unV_neg binV_int binV_str binV_eqlb binV_neqb intOp strOp St.put updL setOb St.ev toV St.lk cellsOf AM.valOf TK.agg stv fillV places TI.zero condT_true condT_false finS resL resSlot packV ren ren1 ren0 Value.cells builtinV appendV elemsOf keepT room_of wrap_in toIdx passed Function.comp_def take_len_map lenV touchOf hid tab1 tab2 tab3 tab4 tab5 tab6 tab7 tab8 tab9 tab10 tab11 tab12 tab13 tab14 tab15 tab16 tab17 tab18 tab19 tab20 tab21 tab22 tab23 tab24 tab25 tab26 tab27 tab28 tab29 tab30 tab31 tab32 tab33 tab34 tab35 tab36 tab37 tab38 tab39 tab40 tab41 tab42 tab43 tab44 tab45 tab46 tab47 tab48 tab49 tab50 tab51 tab52 tab53 tab54 tab55 tab56 tab57 tab58 tab59 tab60 tab61 tab62 tab63 tab64 tab65 tab66 tab67 tab68 tab69 tab70 tab71 tab73 tab74 tab76 tab77 tab78 tab79 tab80 tab81 tab82 tab83 tab84 tab85 tab86 tab87 tab88 tab89 tab90 tab91 tab92 tab93 tab94 tab95 tab96 tab97 tab98 tab99 tab100 tab101 tab102 tab103 tab104 tab105 tab106 tab107 tab108 tab109 tab110 tab111 tab112 tab113 tab114 tab115 tab116 tab117 tab118 tab119 tab120 tab121 tab122 tab123 tab124 tab125 tab126 tab127 tab128 tab129 tab130 tab131 tab132 tab133 tab134 tab135 tab136 tab137 tab138 tab139 tab140 tab141 tab142 tab143 tab144 tab145 tab146 tab147 tab148 tab149 tab150 tab151 tab152 tab153 tab154 tab155 tab156 tab157 tab158 tab159 tab160 tab161 tab162 tab163 tab164 tab165 tab166 tab167 tab168 tab169 tab170 tab171 tab172 tab173 tab174 tab175 tab176 tab177 tab178 tab179 tab180 tab181 tab182 tab184 tab185 tab186 tab187 tab188 tab189 tab190 tab191 tab192 tab193 tab194 tab195 tab196 tab197 tab199 tab200 tab201 tab202 tab203 tab205 tab206 tab208 tab209 tab210 tab211 tab212 tab213 tab214 tab215 tab216 tab217 tab218 tab219 tab220 tab221 tab222 tab223 tab224 tab225 tab227 tab228 tab229 tab230 tab231 tab232 tab233 tab234 tab235 tab236 tab237 tab238 tab239 tab240 tab241 tab243 tab244 tab246 tab247 tab249 tab250 tab251 tab252 tab253 tab254 tab255 tab257 tab258 tab259 tab260 tab261 tab262 tab263 tab264 tab265 tab266 tab267 tab268 tab272 tab273 tab274 tab275 tab276 tab277 tab278 armC_eq blockC_eq bodyC_eq enumC_eq fieldC_eq fnC_eq inC_eq localC_eq mirBodyC_eq operC_eq placeC_eq rvC_eq sourceC_eq spotC_eq stepC_eq stmtC_eq structC_eq tmC_eq tyC_eq useC_eq valueC_eq variantC_eq binV_eqls binV_neqs cutL_nil cutL_junk cutL_cons ren_arr ren_gone ren_unborn ren_var ren_row step_convert cvV_i cvV_sl cvV_s cvK_slc cvE_u8 bytesOf bor1 bor2 bor3 bor4
set_option linter.unusedSimpArgs false
set_option linter.unusedVariables false
set_option maxRecDepth 10000
set_option maxHeartbeats 4000000
noncomputable section
def lDeep_b_l8 (r_lDeep : (List StmtD) → Int) (x3 : StmtD) : List ArmD → Int → Int
 | [], a8_0 => a8_0
 | x8 :: xs8, a8_0 => (if x3.k = 4 then lDeep_b_l8 r_lDeep x3 xs8 (if (IntKind.i64.wrap (1 + (r_lDeep x8.body))) > a8_0 then (IntKind.i64.wrap (1 + (r_lDeep x8.body))) else a8_0) else a8_0)
def lDeep_b_l3 (r_lDeep : (List StmtD) → Int) : List StmtD → Int → Int
 | [], a3_0 => a3_0
 | x3 :: xs3, a3_0 => (bnd (if (x3.k = 2) ∨ (x3.k = 3) then (if (IntKind.i64.wrap (1 + (if (r_lDeep x3.else_) > (r_lDeep x3.then_) then (r_lDeep x3.else_) else (r_lDeep x3.then_)))) > a3_0 then (IntKind.i64.wrap (1 + (if (r_lDeep x3.else_) > (r_lDeep x3.then_) then (r_lDeep x3.else_) else (r_lDeep x3.then_)))) else a3_0) else a3_0) fun (v6 : Int) => (bnd (lDeep_b_l8 r_lDeep x3 x3.arms v6) fun (v8 : Int) => lDeep_b_l3 r_lDeep xs3 v8))
def lDeep_b (r_lDeep : (List StmtD) → Int) (p0 : List StmtD) : Int :=
 (bnd (lDeep_b_l3 r_lDeep p0 1) fun (v3 : Int) => v3)
set_option maxHeartbeats 40000000 in
theorem w_lDeep_b (r_lDeep : (List StmtD) → Int) (p0 : List StmtD)  (D : Nat) (H_lDeep : ∀ (u0 : List StmtD), SizeOf.sizeOf u0 < D → QC prog 19 [.ro 21 (u0.map stmtC)] [] (.i .i64 (r_lDeep u0)) []) (hD : SizeOf.sizeOf p0 ≤ D) : QC prog 19 [.ro 21 (p0.map stmtC)] [] (.i .i64 (lDeep_b r_lDeep p0)) [] := by
 refine QC.of_body tabOK func19 rfl (by kernel_rfl) ?_
 simp only [f19]
 generalize e : lDeep_b r_lDeep p0 = R
 unfold lDeep_b at e
 refine EV.seq ?_
 refine EV.regionG tabOK ?_ -- region 0
 simp (maxSteps := 2000000) -implicitDefEqProofs
 refine EV.seq ?_
 refine EV.regionG tabOK ?_ -- region 1
 simp (maxSteps := 2000000) -implicitDefEqProofs
 refine EV.seq ?_
 refine EV.seq ?_
 refine EV.regionG tabOK ?_ -- region 2
 simp (maxSteps := 2000000) -implicitDefEqProofs
 obtain ⟨z3, e3, e⟩ := bnd_split e
 refine EV.nrm (fun v : { v : (Int) × (Unit) // z3 = v.1 } => (fun (v3 : Int) (g3 : Unit) => (⟨[J, J, J, .i .i64 v3, J, J, J, J, J, J, J, J, J, J, J, J, J, J, J, J, J, J, J, J, J, J, J, J, J, J, J, J, J, J, J, J, J, J, J, J, J, J, J, J, J, J, J, J, J, J, J, J, J, J, J, J, J, J, J, J, J, J, J, J, J, J, J, J, J, J, J, J, J, J], []⟩ : St)) v.1.1 v.1.2) ?_ ?_
 ·skip
  refine EV.block ?_
  refine EV.loopB (fun x : { x : Nat × Int // x.1 ≤ p0.length ∧ lDeep_b_l3 r_lDeep (p0.drop x.1) x.2 = z3 } => (fun (j3 : Nat) (a3_0 : Int) => (⟨[.ro 21 (p0.map stmtC), J, J, .i .i64 a3_0, .i .i64 (j3 : Int), J, J, J, J, J, J, J, J, J, J, J, J, J, J, J, J, J, J, J, J, J, J, J, J, J, J, J, J, J, J, J, J, J, J, J, J, J, J, J, J, J, J, J, J, J, J, J, J, J, J, J, J, J, J, J, J, J, J, J, J, J, J, J, J, J, J, J, J, J], []⟩ : St)) x.1.1 x.1.2) (fun x => p0.length - x.1.1) ⟨(0, 1), Nat.zero_le _, e3⟩ ?_ ?_
  ·skip
   try dsimp only
   try dsimp only
   refine Sub.cutF 0 (by simp) ?_ ?_ <;> simp [List.range_succ, toIdx_range, passed]
  ·skip
   rintro ⟨⟨j3, a3_0⟩, hi3, e3⟩
   simp only at hi3 e3 ⊢
   refine EV.seq ?_
   refine EV.seq ?_
   refine EV.regionG tabOK ?_ -- region 3
   simp (maxSteps := 2000000) -implicitDefEqProofs
   refine EV.room 0 (by rfl) (fun mj3 => ?_)
   simp at mj3
   refine EV.condT ?_
   simp -implicitDefEqProofs
   refine condT_intro (fun k1 => ?_) (fun k1 => ?_)
   ·try simp at k1
    have u1 : j3 < p0.length := by omega
    obtain ⟨x3, hx3⟩ : ∃ z, p0[j3] = z := ⟨_, rfl⟩
    have mx3 : x3 ∈ p0 := by rw [← hx3]; exact List.getElem_mem _
    have zzx3 := List.sizeOf_lt_of_mem mx3
    rw [List.drop_eq_getElem_cons u1, hx3, lDeep_b_l3] at e3
    refine EV.skip ?_
    simp only [thenK_normal, blockK_normal, scopeK_normal]
    refine EV.seq ?_
    refine EV.block ?_
    refine EV.seq ?_
    refine EV.seq ?_
    refine EV.nrm (fun _ : Unit => (⟨[.ro 21 (p0.map stmtC), J, J, .i .i64 a3_0, .i .i64 (j3 : Int), J, J, J, J, J, J, J, J, J, J, J, J, J, J, J, J, J, J, J, J, .b ((decide (x3.k = 2)) || (decide (x3.k = 3))), J, J, J, J, J, J, J, J, J, J, J, J, J, J, J, J, J, J, J, J, J, J, J, J, J, J, J, J, J, J, J, J, J, J, J, J, J, J, J, J, J, J, J, J, J, J, J, J], []⟩ : St)) ?_ ?_
    ·skip
     by_cases k3 : x3.k = 2
     ·skip
      have kk3 := k3
      try simp at kk3
      refine EV.regionG tabOK ?_ -- region 5
      simp (maxSteps := 2000000) -implicitDefEqProofs +contextual [k1, u1, hx3, k3, kk3]
      refine ⟨(), ?_⟩
      try dsimp only
      refine Sub.cutF 0 (by simp) ?_ ?_ <;> simp [List.range_succ, toIdx_range, passed, k1, u1, hx3, k3, kk3]
     ·skip
      have kk3 := k3
      try simp at kk3
      refine EV.regionG tabOK ?_ -- region 5
      simp (maxSteps := 2000000) -implicitDefEqProofs +contextual [k1, u1, hx3, k3, kk3]
      refine ⟨(), ?_⟩
      try dsimp only
      refine Sub.cutF 0 (by simp) ?_ ?_ <;> simp [List.range_succ, toIdx_range, passed, k1, u1, hx3, k3, kk3]
    ·skip
     rintro _
     simp only [thenK_normal, blockK_normal, scopeK_normal, bodyK_normal]
     obtain ⟨z6, e6, e3⟩ := bnd_split e3
     refine EV.nrm (fun v : { v : (Int) × (Unit) // z6 = v.1 } => (fun (v6 : Int) (g6 : Unit) => (⟨[.ro 21 (p0.map stmtC), J, J, .i .i64 v6, .i .i64 (j3 : Int), J, J, J, J, J, J, J, J, J, J, J, J, J, J, J, J, J, J, J, J, J, J, J, J, J, J, J, J, J, J, J, J, J, J, J, J, J, J, J, J, J, J, J, J, J, J, J, J, J, J, J, J, J, J, J, J, J, J, J, J, J, J, J, J, J, J, J, J, J], []⟩ : St)) v.1.1 v.1.2) ?_ ?_
     ·skip
      refine EV.condT ?_
      simp -implicitDefEqProofs [k1, u1, hx3]
      refine condT_intro (fun k4 => ?_) (fun k4 => ?_)
      ·try simp at k4
       obtain ⟨f4, e6⟩ := pos_on2 e6 (by first | simpa using k4 | grind)
       try simp at f4
       have := sz_StmtD_then_ x3
       have := sz_StmtD_else_ x3
       refine EV.drawG tabOK mixedOK ?_ -- region 6
       simp (maxSteps := 2000000) -implicitDefEqProofs [k1, u1, hx3]
       refine callG_fun (H_lDeep x3.then_ (by first | omega | (simp at *; omega))) ?_ ?_
       ·first | (simp; done) | (simp [k1, u1, hx3]; done)
       simp (maxSteps := 2000000) -implicitDefEqProofs [k1, u1, hx3]
       refine callG_fun (H_lDeep x3.else_ (by first | omega | (simp at *; omega))) ?_ ?_
       ·first | (simp; done) | (simp [k1, u1, hx3]; done)
       simp (maxSteps := 2000000) -implicitDefEqProofs [k1, u1, hx3]
       refine And.intro ?_ ?_
       ·first | decide +kernel | (simp -implicitDefEqProofs; decide +kernel) | (split <;> decide +kernel)
       try simp -implicitDefEqProofs
       refine ⟨⟨((if (IntKind.i64.wrap (1 + (if (r_lDeep x3.else_) > (r_lDeep x3.then_) then (r_lDeep x3.else_) else (r_lDeep x3.then_)))) > a3_0 then (IntKind.i64.wrap (1 + (if (r_lDeep x3.else_) > (r_lDeep x3.then_) then (r_lDeep x3.else_) else (r_lDeep x3.then_)))) else a3_0), ()), e6.symm⟩, ?_⟩
       try dsimp only
       refine Sub.cutF 0 (by simp) ?_ ?_ <;> simp [List.range_succ, toIdx_range, passed, k1, u1, hx3]
      ·try simp at k4
       obtain ⟨f4, e6⟩ := neg_on2 e6 (by first | simpa using k4 | grind)
       try simp at f4
       refine EV.skip ?_
       simp only [thenK_normal, blockK_normal, scopeK_normal]
       refine ⟨⟨(a3_0, ()), e6.symm⟩, ?_⟩
       try dsimp only
       refine Sub.cutF 0 (by simp) ?_ ?_ <;> simp [List.range_succ, toIdx_range, passed, k1, u1, hx3]
     ·skip
      rintro ⟨⟨v6, g6⟩, e6⟩
      simp only [thenK_normal, blockK_normal, scopeK_normal, bodyK_normal]
      replace e3 := bnd_on e3 e6
      try dsimp only at e3
      refine EV.seq ?_
      refine EV.regionG tabOK ?_ -- region 7
      simp (maxSteps := 2000000) -implicitDefEqProofs [k1, u1, hx3]
      obtain ⟨z8, e8, e3⟩ := bnd_split e3
      refine EV.nrm (fun v : { v : (Int) × (Unit) // z8 = v.1 } => (fun (v8 : Int) (g8 : Unit) => (⟨[.ro 21 (p0.map stmtC), J, J, .i .i64 v8, .i .i64 (j3 : Int), J, J, J, J, J, J, J, J, J, J, J, J, J, J, J, J, J, J, J, J, J, J, J, J, J, J, J, J, J, J, J, J, J, J, J, J, J, J, J, J, J, J, J, J, J, J, J, J, J, J, J, J, J, J, J, J, J, J, J, J, J, J, J, J, J, J, J, J, J], []⟩ : St)) v.1.1 v.1.2) ?_ ?_
      ·skip
       refine EV.block ?_
       refine EV.loopB (fun x : { x : Nat × Int // x.1 ≤ x3.arms.length ∧ lDeep_b_l8 r_lDeep x3 (x3.arms.drop x.1) x.2 = z8 } => (fun (j8 : Nat) (a8_0 : Int) => (⟨[.ro 21 (p0.map stmtC), J, J, .i .i64 a8_0, .i .i64 (j3 : Int), .i .i64 (j8 : Int), J, J, J, J, J, J, J, J, J, J, J, J, J, J, J, J, J, J, J, J, J, J, J, J, J, J, J, J, J, J, J, J, J, J, J, J, J, J, J, J, J, J, J, J, J, J, J, J, J, J, J, J, J, J, J, J, J, J, J, J, J, J, J, J, J, J, J, J], []⟩ : St)) x.1.1 x.1.2) (fun x => x3.arms.length - x.1.1) ⟨(0, v6), Nat.zero_le _, e8⟩ ?_ ?_
       ·skip
        try dsimp only
        try dsimp only
        refine Sub.cutF 0 (by simp) ?_ ?_ <;> simp [List.range_succ, toIdx_range, passed, k1, u1, hx3]
       ·skip
        rintro ⟨⟨j8, a8_0⟩, hi8, e8⟩
        simp only at hi8 e8 ⊢
        refine EV.seq ?_
        refine EV.seq ?_
        by_cases k5 : (j8 : Int) < (x3.arms.length : Int)
        ·skip
         have kk5 := k5
         try simp at kk5
         refine EV.regionG tabOK ?_ -- region 8
         simp (maxSteps := 2000000) -implicitDefEqProofs +contextual [k1, u1, hx3, k5, kk5]
         refine EV.room 47 (by rfl) (fun mr6 => ?_)
         simp at mr6
         refine EV.condT ?_
         simp -implicitDefEqProofs [k1, u1, hx3, k5, kk5]
         have u7 : j8 < x3.arms.length := by omega
         obtain ⟨x8, hx8⟩ : ∃ z, x3.arms[j8] = z := ⟨_, rfl⟩
         have mx8 : x8 ∈ x3.arms := by rw [← hx8]; exact List.getElem_mem _
         have zzx8 := List.sizeOf_lt_of_mem mx8
         have := sz_StmtD_arms x3
         rw [List.drop_eq_getElem_cons u7, hx8, lDeep_b_l8] at e8
         refine condT_intro (fun k8 => ?_) (fun k8 => ?_)
         ·try simp at k8
          obtain ⟨f8, e8⟩ := pos_on2 e8 (by first | simpa [k5, kk5] using k8 | grind)
          try simp at f8
          refine EV.skip ?_
          simp only [thenK_normal, blockK_normal, scopeK_normal]
          refine EV.seq ?_
          refine EV.block ?_
          have := sz_ArmD_body x8
          refine EV.regionG tabOK ?_ -- region 10
          simp (maxSteps := 2000000) -implicitDefEqProofs [k1, u1, hx3, k5, kk5, u7, hx8]
          refine callG_fun (H_lDeep x8.body (by first | omega | (simp at *; omega))) ?_ ?_
          ·first | (simp; done) | (simp [k1, u1, hx3, k5, kk5, u7, hx8]; done)
          simp (maxSteps := 2000000) -implicitDefEqProofs [k1, u1, hx3, k5, kk5, u7, hx8]
          refine EV.regionG tabOK ?_ -- region 9
          simp (maxSteps := 2000000) -implicitDefEqProofs [k1, u1, hx3, k5, kk5, u7, hx8]
          have w8 : IntKind.i64.wrap ((j8 : Int) + 1) = (j8 : Int) + 1 := wrap_in _ (by omega) (by omega)
          refine ⟨⟨(j8 + 1, (if (IntKind.i64.wrap (1 + (r_lDeep x8.body))) > a8_0 then (IntKind.i64.wrap (1 + (r_lDeep x8.body))) else a8_0)), by omega, e8⟩, by dsimp only; omega, ?_⟩
          try dsimp only
          refine Sub.cutF 0 (by simp) ?_ ?_ <;> simp [List.range_succ, toIdx_range, passed, k1, u1, hx3, k5, kk5, u7, hx8, w8]
         ·try simp at k8
          obtain ⟨f8, e8⟩ := neg_on2 e8 (by first | simpa [k5, kk5] using k8 | grind)
          try simp at f8
          refine EV.exit ?_
          simp -implicitDefEqProofs
          refine ⟨⟨(a8_0, ()), e8.symm⟩, ?_⟩
          try dsimp only
          refine Sub.cutF 0 (by simp) ?_ ?_ <;> simp [List.range_succ, toIdx_range, passed, k1, u1, hx3, k5, kk5, u7, hx8]
        ·skip
         have kk5 := k5
         try simp at kk5
         refine EV.regionG tabOK ?_ -- region 8
         simp (maxSteps := 2000000) -implicitDefEqProofs +contextual [k1, u1, hx3, k5, kk5]
         refine EV.room 47 (by rfl) (fun mr9 => ?_)
         simp at mr9
         refine EV.condT ?_
         simp -implicitDefEqProofs [k1, u1, hx3, k5, kk5]
         have d10 : x3.arms.drop j8 = [] := List.drop_eq_nil_of_le (by omega)
         rw [d10, lDeep_b_l8] at e8
         refine EV.exit ?_
         simp -implicitDefEqProofs
         refine ⟨⟨(a8_0, ()), e8.symm⟩, ?_⟩
         try dsimp only
         refine Sub.cutF 0 (by simp) ?_ ?_ <;> simp [List.range_succ, toIdx_range, passed, k1, u1, hx3, k5, kk5]
      ·skip
       rintro ⟨⟨v8, g8⟩, e8⟩
       simp only [thenK_normal, blockK_normal, scopeK_normal, bodyK_normal]
       replace e3 := bnd_on e3 e8
       try dsimp only at e3
       refine EV.regionG tabOK ?_ -- region 4
       simp (maxSteps := 2000000) -implicitDefEqProofs [k1, u1, hx3]
       have w3 : IntKind.i64.wrap ((j3 : Int) + 1) = (j3 : Int) + 1 := wrap_in _ (by omega) (by omega)
       refine ⟨⟨(j3 + 1, v8), by omega, e3⟩, by dsimp only; omega, ?_⟩
       try dsimp only
       refine Sub.cutF 0 (by simp) ?_ ?_ <;> simp [List.range_succ, toIdx_range, passed, k1, u1, hx3, w3]
   ·try simp at k1
    have d1 : p0.drop j3 = [] := List.drop_eq_nil_of_le (by omega)
    rw [d1, lDeep_b_l3] at e3
    refine EV.exit ?_
    simp -implicitDefEqProofs
    refine ⟨⟨(a3_0, ()), e3.symm⟩, ?_⟩
    try dsimp only
    refine Sub.cutF 0 (by simp) ?_ ?_ <;> simp [List.range_succ, toIdx_range, passed]
 ·skip
  rintro ⟨⟨v3, g3⟩, e3⟩
  simp only [thenK_normal, blockK_normal, scopeK_normal, bodyK_normal]
  replace e := bnd_on e e3
  try dsimp only at e
  refine EV.seq ?_
  refine EV.regionG tabOK ?_ -- region 11
  simp (maxSteps := 2000000) -implicitDefEqProofs
  refine EV.ret ?_
  simp only [thenK_ret, blockK_ret, scopeK_ret, bodyK_ret]
  subst e
  refine Fin.pure0 ?_
  first | (simp; done) | (simp <;> grind)

def lDeep_f : Nat → (List StmtD) → Int
 | 0, _ => default
 | k + 1, p0 => lDeep_b (lDeep_f k) p0
def lDeep (p0 : List StmtD) : Int := lDeep_f (SizeOf.sizeOf p0 + 1) p0
theorem w_lDeep_f : ∀ k : Nat, (∀ (p0 : List StmtD), SizeOf.sizeOf p0 < k → QC prog 19 [.ro 21 (p0.map stmtC)] [] (.i .i64 (lDeep_f k p0)) [])
 | 0 => by refine (fun _ h => absurd h (Nat.not_lt_zero _))
 | k + 1 => by refine (fun p0 h => by rw [lDeep_f]; exact w_lDeep_b (lDeep_f k) p0 k (w_lDeep_f k) (by omega))
theorem w_lDeep (p0 : List StmtD) : QC prog 19 [.ro 21 (p0.map stmtC)] [] (.i .i64 (lDeep p0)) [] := (w_lDeep_f (SizeOf.sizeOf p0 + 1)) p0 (Nat.lt_succ_self _)
def lTreeDeep_l11 (p1 : Int) (a11_0 : List StmtD) (a11_1 : Int) : (List StmtD) :=
 (if a11_1 < p1 then (if _h : ((p1 + 1 - ((IntKind.i64.wrap (a11_1 + 1)))).toNat) < ((p1 + 1 - a11_1).toNat) then lTreeDeep_l11 p1 ([(StmtD.mk 3 0 ([] : List UInt8) (TyD.mk 0 ([] : List UInt8) ([])) (PlaceD.mk ([] : List UInt8) ([])) (RvD.mk 0 ([]) (PlaceD.mk ([] : List UInt8) ([])) ([] : List UInt8) ([] : List UInt8)) (OperD.mk true 1 (PlaceD.mk ([] : List UInt8) ([]))) a11_0 ([]) ([]))] : List StmtD) (IntKind.i64.wrap (a11_1 + 1)) else default) else a11_0)
 termination_by (p1 + 1 - a11_1).toNat
 decreasing_by exact _h
def lTreeDeep (p0 : List StmtD) (p1 : Int) : Bool :=
 (if (((zLarge (SourceD.mk ([]) ([]) ([(FnD.mk ([102] : List UInt8) ([]) p0 0)] : List FnD)) 400) = true) ∨ (p1 < 0)) ∨ (70 < p1) then true else (bnd (lTreeDeep_l11 p1 p0 0) fun (v11 : (List StmtD)) => (if 60 ≤ p1 then (!(tValid05 (SourceD.mk ([]) ([]) ([(FnD.mk ([102] : List UInt8) ([]) v11 0)] : List FnD)))) else (((!(tValid05 (SourceD.mk ([]) ([]) ([(FnD.mk ([102] : List UInt8) ([]) v11 0)] : List FnD)))) || (tValid05 (SourceD.mk ([]) ([]) ([(FnD.mk ([102] : List UInt8) ([]) p0 0)] : List FnD)))) && (((tValid05 (SourceD.mk ([]) ([]) ([(FnD.mk ([102] : List UInt8) ([]) v11 0)] : List FnD))) || (!(tValid05 (SourceD.mk ([]) ([]) ([(FnD.mk ([102] : List UInt8) ([]) p0 0)] : List FnD))))) || (decide (60 < (IntKind.i64.wrap (p1 + (lDeep p0))))))))))
set_option maxHeartbeats 40000000 in
theorem w_lTreeDeep (p0 : List StmtD) (p1 : Int)  : QC prog 7 [.ro 21 (p0.map stmtC), .i .i64 p1] [] (.b (lTreeDeep p0 p1)) [] := by
 refine QC.of_body tabOK func7 rfl (by kernel_rfl) ?_
 simp only [f7]
 generalize e : lTreeDeep p0 p1 = R
 unfold lTreeDeep at e
 refine EV.seq ?_
 refine EV.regionG tabOK ?_ -- region 0
 simp (maxSteps := 2000000) -implicitDefEqProofs
 refine EV.seq ?_
 refine EV.regionG tabOK ?_ -- region 1
 simp (maxSteps := 2000000) -implicitDefEqProofs
 refine callG_fun (w_works05) ?_ ?_
 ·simp
 simp (maxSteps := 2000000) -implicitDefEqProofs
 refine EV.seq ?_
 refine EV.seq ?_
 refine EV.regionG tabOK ?_ -- region 2
 simp (maxSteps := 2000000) -implicitDefEqProofs
 refine EV.condT ?_
 simp -implicitDefEqProofs
 refine EV.skip ?_
 simp only [thenK_normal, blockK_normal, scopeK_normal]
 refine EV.seq ?_
 refine EV.regionG tabOK ?_ -- region 4
 simp (maxSteps := 2000000) -implicitDefEqProofs
 refine EV.seq ?_
 refine EV.regionG tabOK ?_ -- region 5
 simp (maxSteps := 2000000) -implicitDefEqProofs
 refine callG_data [0] (w_zLarge (SourceD.mk ([]) ([]) ([(FnD.mk ([102] : List UInt8) ([]) p0 0)] : List FnD)) 400) ?_ ?_ ?_
 ·simp [allP, allR, c0, ld1, ld0, cvOb, Pu, take_len_map, List.getD, List.range_succ]
 ·first | trivial | simp [nr, nr1, nr0]
 simp (maxSteps := 2000000) -implicitDefEqProofs
 refine EV.seq ?_
 refine EV.seq ?_
 refine EV.regionG tabOK ?_ -- region 6
 simp (maxSteps := 2000000) -implicitDefEqProofs +contextual
 refine EV.condT ?_
 simp -implicitDefEqProofs
 refine condT_intro (fun k1 => ?_) (fun k1 => ?_)
 ·try simp at k1
  obtain ⟨f1, e⟩ := pos_on2 e (by first | simpa using k1 | grind)
  try simp at f1
  refine EV.seq ?_
  refine EV.regionG tabOK ?_ -- region 7
  simp (maxSteps := 2000000) -implicitDefEqProofs
  refine EV.ret ?_
  simp only [thenK_ret, blockK_ret, scopeK_ret, bodyK_ret]
  subst e
  refine Fin.pure0 ?_
  first | (simp; done) | (simp <;> grind)
 ·try simp at k1
  obtain ⟨f1, e⟩ := neg_on2 e (by first | simpa using k1 | grind)
  try simp at f1
  refine EV.skip ?_
  simp only [thenK_normal, blockK_normal, scopeK_normal]
  refine EV.seq ?_
  refine EV.regionG tabOK ?_ -- region 8
  simp (maxSteps := 2000000) -implicitDefEqProofs
  refine callG_data [0] (w_tValid05 (SourceD.mk ([]) ([]) ([(FnD.mk ([102] : List UInt8) ([]) p0 0)] : List FnD))) ?_ ?_ ?_
  ·simp [allP, allR, c0, ld1, ld0, cvOb, Pu, take_len_map, List.getD, List.range_succ]
  ·first | trivial | simp [nr, nr1, nr0]
  simp (maxSteps := 2000000) -implicitDefEqProofs
  refine EV.seq ?_
  refine EV.regionG tabOK ?_ -- region 9
  simp (maxSteps := 2000000) -implicitDefEqProofs
  refine EV.seq ?_
  refine EV.seq ?_
  refine EV.regionG tabOK ?_ -- region 10
  simp (maxSteps := 2000000) -implicitDefEqProofs
  obtain ⟨z11, e11, e⟩ := bnd_split e
  refine EV.nrm (fun v : { v : ((List StmtD)) × (Unit) // z11 = v.1 } => (fun (v11 : (List StmtD)) (g11 : Unit) => (⟨[.ro 21 (p0.map stmtC), .i .i64 p1, J, J, J, .b true, J, J, .b (tValid05 (SourceD.mk ([]) ([]) ([(FnD.mk ([102] : List UInt8) ([]) p0 0)] : List FnD))), .ro 21 (v11.map stmtC), J, J, J, J, J, J, J, J, J, J, J, J, J, J, J, J, J, J, J, J, J, J, J, J, J, J, J, J, J, J, J, J, J, J, J, J, J, J, J, J, J, J, J, J, J, J, J, J, J, J, J, J, J, J, J, J, J, J, J, J, J, J, J, J, J, J, J], []⟩ : St)) v.1.1 v.1.2) ?_ ?_
  ·skip
   refine EV.block ?_
   refine EV.loopB (fun x : { x : (List StmtD) × Int // lTreeDeep_l11 p1 x.1 x.2 = z11 ∧ (fun (a11_0 : List StmtD) (a11_1 : Int) => 0 ≤ a11_1 ∧ a11_1 ≤ p1) x.1 x.2 } => (fun (a11_0 : List StmtD) (a11_1 : Int) => (⟨[.ro 21 (p0.map stmtC), .i .i64 p1, J, J, J, .b true, J, J, .b (tValid05 (SourceD.mk ([]) ([]) ([(FnD.mk ([102] : List UInt8) ([]) p0 0)] : List FnD))), .ro 21 (a11_0.map stmtC), .i .i64 a11_1, J, J, J, J, J, J, J, J, J, J, J, J, J, J, J, J, J, J, J, J, J, J, J, J, J, J, J, J, J, J, J, J, J, J, J, J, J, J, J, J, J, J, J, J, J, J, J, J, J, J, J, J, J, J, J, J, J, J, J, J, J, J, J, J, J, J], []⟩ : St)) x.1.1 x.1.2) (fun x => (fun (a11_0 : List StmtD) (a11_1 : Int) => (p1 + 1 - a11_1).toNat) x.1.1 x.1.2) ⟨(p0, 0), e11, by ((try dsimp only); first | omega | (simp only [IntKind.wrap_i64] at *; omega))⟩ ?_ ?_
   ·skip
    try dsimp only
    try dsimp only
    refine Sub.cutF 0 (by simp) ?_ ?_ <;> simp [List.range_succ, toIdx_range, passed]
   ·skip
    rintro ⟨⟨a11_0, a11_1⟩, e11, q11⟩
    simp only at e11 ⊢
    try dsimp only at q11
    rw [lTreeDeep_l11] at e11
    rw [dif_pos (by simp only [IntKind.wrap_i64]; omega)] at e11
    refine EV.seq ?_
    refine EV.seq ?_
    refine EV.regionG tabOK ?_ -- region 11
    simp (maxSteps := 2000000) -implicitDefEqProofs
    refine EV.condT ?_
    simp -implicitDefEqProofs
    refine condT_intro (fun k2 => ?_) (fun k2 => ?_)
    ·try simp at k2
     obtain ⟨f2, e11⟩ := pos_on2 e11 (by first | simpa using k2 | grind)
     try simp at f2
     refine EV.skip ?_
     simp only [thenK_normal, blockK_normal, scopeK_normal]
     refine EV.seq ?_
     refine EV.block ?_
     refine EV.regionG tabOK ?_ -- region 13
     simp (maxSteps := 2000000) -implicitDefEqProofs
     refine EV.sub (σ' := ⟨[.ro 21 (p0.map stmtC), .i .i64 p1, J, J, J, .b true, J, J, .b (tValid05 (SourceD.mk ([]) ([]) ([(FnD.mk ([102] : List UInt8) ([]) p0 0)] : List FnD))), .ro 21 (([(StmtD.mk 3 0 ([] : List UInt8) (TyD.mk 0 ([] : List UInt8) ([])) (PlaceD.mk ([] : List UInt8) ([])) (RvD.mk 0 ([]) (PlaceD.mk ([] : List UInt8) ([])) ([] : List UInt8) ([] : List UInt8)) (OperD.mk true 1 (PlaceD.mk ([] : List UInt8) ([]))) a11_0 ([]) ([]))] : List StmtD).map stmtC), .i .i64 a11_1, J, J, J, J, J, J, J, J, J, J, J, J, J, J, J, J, J, J, J, J, J, J, J, J, J, J, J, J, J, J, J, J, J, J, J, J, J, J, J, J, J, J, J, J, J, J, J, J, J, J, J, J, J, J, J, J, J, J, J, J, J, J, J, J, J, J], []⟩) ?_ ?_
     ·skip
      try dsimp only
      refine Sub.cutG 0 (by simp) ?_ ?_ <;> simp [allP, allR, c0, slotR, conv1, conv0, cvOb, Pu, take_len_map, List.getD, List.range_succ, toIdx_range, passed]
     refine EV.regionG tabOK ?_ -- region 12
     simp (maxSteps := 2000000) -implicitDefEqProofs
     refine ⟨⟨(([(StmtD.mk 3 0 ([] : List UInt8) (TyD.mk 0 ([] : List UInt8) ([])) (PlaceD.mk ([] : List UInt8) ([])) (RvD.mk 0 ([]) (PlaceD.mk ([] : List UInt8) ([])) ([] : List UInt8) ([] : List UInt8)) (OperD.mk true 1 (PlaceD.mk ([] : List UInt8) ([]))) a11_0 ([]) ([]))] : List StmtD), (IntKind.i64.wrap (a11_1 + 1))), e11, by ((try dsimp only); first | omega | (simp only [IntKind.wrap_i64] at *; omega))⟩, by (dsimp only; simp only [IntKind.wrap_i64] at *; omega), ?_⟩
     try dsimp only
     refine Sub.cutF 0 (by simp) ?_ ?_ <;> simp [List.range_succ, toIdx_range, passed]
    ·try simp at k2
     obtain ⟨f2, e11⟩ := neg_on2 e11 (by first | simpa using k2 | grind)
     try simp at f2
     refine EV.exit ?_
     simp -implicitDefEqProofs
     refine ⟨⟨(a11_0, ()), e11.symm⟩, ?_⟩
     try dsimp only
     refine Sub.cutF 0 (by simp) ?_ ?_ <;> simp [List.range_succ, toIdx_range, passed]
  ·skip
   rintro ⟨⟨v11, g11⟩, e11⟩
   simp only [thenK_normal, blockK_normal, scopeK_normal, bodyK_normal]
   replace e := bnd_on e e11
   try dsimp only at e
   refine EV.seq ?_
   refine EV.regionG tabOK ?_ -- region 14
   simp (maxSteps := 2000000) -implicitDefEqProofs
   refine callG_data [0] (w_tValid05 (SourceD.mk ([]) ([]) ([(FnD.mk ([102] : List UInt8) ([]) v11 0)] : List FnD))) ?_ ?_ ?_
   ·simp [allP, allR, c0, ld1, ld0, cvOb, Pu, take_len_map, List.getD, List.range_succ]
   ·first | trivial | simp [nr, nr1, nr0]
   simp (maxSteps := 2000000) -implicitDefEqProofs
   refine EV.seq ?_
   refine EV.seq ?_
   refine EV.regionG tabOK ?_ -- region 15
   simp (maxSteps := 2000000) -implicitDefEqProofs
   refine EV.condT ?_
   simp -implicitDefEqProofs
   refine condT_intro (fun k3 => ?_) (fun k3 => ?_)
   ·try simp at k3
    obtain ⟨f3, e⟩ := pos_on2 e (by first | simpa using k3 | grind)
    try simp at f3
    refine EV.seq ?_
    refine EV.regionG tabOK ?_ -- region 16
    simp (maxSteps := 2000000) -implicitDefEqProofs +contextual
    refine EV.ret ?_
    simp only [thenK_ret, blockK_ret, scopeK_ret, bodyK_ret]
    subst e
    refine Fin.pure0 ?_
    first | (simp; done) | (simp <;> grind)
   ·try simp at k3
    obtain ⟨f3, e⟩ := neg_on2 e (by first | simpa using k3 | grind)
    try simp at f3
    refine EV.skip ?_
    simp only [thenK_normal, blockK_normal, scopeK_normal]
    refine EV.seq ?_
    refine EV.nrm (fun _ : Unit => (⟨[J, J, J, J, .b (((!(tValid05 (SourceD.mk ([]) ([]) ([(FnD.mk ([102] : List UInt8) ([]) v11 0)] : List FnD)))) || (tValid05 (SourceD.mk ([]) ([]) ([(FnD.mk ([102] : List UInt8) ([]) p0 0)] : List FnD)))) && (((tValid05 (SourceD.mk ([]) ([]) ([(FnD.mk ([102] : List UInt8) ([]) v11 0)] : List FnD))) || (!(tValid05 (SourceD.mk ([]) ([]) ([(FnD.mk ([102] : List UInt8) ([]) p0 0)] : List FnD))))) || (decide (60 < (IntKind.i64.wrap (p1 + (lDeep p0))))))), J, J, J, J, J, J, J, J, J, J, J, J, J, J, J, J, J, J, J, J, J, J, J, J, J, J, J, J, J, J, J, J, J, J, J, J, J, J, J, J, J, J, J, J, J, J, J, J, J, J, J, J, J, J, J, J, J, J, J, J, J, J, J, J, J, J, J, J, J, J, J, J], []⟩ : St)) ?_ ?_
    ·skip
     cases k5 : (tValid05 (SourceD.mk ([]) ([]) ([(FnD.mk ([102] : List UInt8) ([]) v11 0)] : List FnD)))
     ·skip
      have kk5 := k5
      try simp at kk5
      cases k6 : (tValid05 (SourceD.mk ([]) ([]) ([(FnD.mk ([102] : List UInt8) ([]) p0 0)] : List FnD)))
      ·skip
       have kk6 := k6
       try simp at kk6
       refine EV.regionG tabOK ?_ -- region 17
       simp (maxSteps := 2000000) -implicitDefEqProofs +contextual [k5, kk5, k6, kk6]
       refine ⟨(), ?_⟩
       try dsimp only
       refine Sub.cutF 0 (by simp) ?_ ?_ <;> simp [List.range_succ, toIdx_range, passed, k5, kk5, k6, kk6]
      ·skip
       have kk6 := k6
       try simp at kk6
       refine EV.regionG tabOK ?_ -- region 17
       simp (maxSteps := 2000000) -implicitDefEqProofs +contextual [k5, kk5, k6, kk6]
       refine callG_fun (w_lDeep p0) ?_ ?_
       ·first | (simp; done) | (simp [k5, kk5, k6, kk6]; done)
       simp (maxSteps := 2000000) -implicitDefEqProofs +contextual [k5, kk5, k6, kk6]
       refine ⟨(), ?_⟩
       try dsimp only
       refine Sub.cutF 0 (by simp) ?_ ?_ <;> simp [List.range_succ, toIdx_range, passed, k5, kk5, k6, kk6]
     ·skip
      have kk5 := k5
      try simp at kk5
      cases k7 : (tValid05 (SourceD.mk ([]) ([]) ([(FnD.mk ([102] : List UInt8) ([]) p0 0)] : List FnD)))
      ·skip
       have kk7 := k7
       try simp at kk7
       refine EV.regionG tabOK ?_ -- region 17
       simp (maxSteps := 2000000) -implicitDefEqProofs +contextual [k5, kk5, k7, kk7]
       refine ⟨(), ?_⟩
       try dsimp only
       refine Sub.cutF 0 (by simp) ?_ ?_ <;> simp [List.range_succ, toIdx_range, passed, k5, kk5, k7, kk7]
      ·skip
       have kk7 := k7
       try simp at kk7
       refine EV.regionG tabOK ?_ -- region 17
       simp (maxSteps := 2000000) -implicitDefEqProofs +contextual [k5, kk5, k7, kk7]
       refine ⟨(), ?_⟩
       try dsimp only
       refine Sub.cutF 0 (by simp) ?_ ?_ <;> simp [List.range_succ, toIdx_range, passed, k5, kk5, k7, kk7]
    ·skip
     rintro _
     simp only [thenK_normal, blockK_normal, scopeK_normal, bodyK_normal]
     refine EV.ret ?_
     simp only [thenK_ret, blockK_ret, scopeK_ret, bodyK_ret]
     subst e
     refine Fin.pure0 ?_
     first | (simp; done) | (simp <;> grind)
end
end Go.Proofs.Tryz
end
section
namespace Go.Proofs.Tryz
open Go Go.AM
set_option maxRecDepth 10000

/-- What a statement asks of its own parts, and what of the statements in it. -/
theorem rS_split (rB : List StmtD → Int → Bool) (r : StmtD → Int → Bool) (t : StmtD) (d : Int) : rValidStmt_b rB r t d = true ↔
    rValidStmt_b (fun _ _ => true) r t 0 = true ∧ (t.k = 2 → rB t.then_ (IntKind.i64.wrap (d + 1)) = true ∧ rB t.else_ (IntKind.i64.wrap (d + 1)) = true) ∧
      (t.k = 3 → rB t.then_ (IntKind.i64.wrap (d + 1)) = true) ∧ (t.k = 4 → ∀ a ∈ t.arms, rB a.body (IntKind.i64.wrap (d + 1)) = true) := by
  unfold rValidStmt_b
  rw [rArms_eq, rArms_eq]
  by_cases h0 : t.k = 0
  · simp only [if_pos h0]; grind
  by_cases h1 : t.k = 1
  · simp only [if_neg h0, if_pos h1]; grind
  by_cases h2 : t.k = 2
  · simp only [if_neg h0, if_neg h1, if_pos h2, Bool.and_eq_true]; grind
  by_cases h3 : t.k = 3
  · simp only [if_neg h0, if_neg h1, if_neg h2, if_pos h3, Bool.and_eq_true]; grind
  by_cases h4 : t.k = 4
  · simp only [if_neg h0, if_neg h1, if_neg h2, if_neg h3, if_pos h4]
    split
    · simp
    · simp only [Bool.and_true, List.all_eq_true, Bool.and_eq_true]
      constructor
      · intro h
        exact ⟨fun a ha => ⟨(h a ha).1, (h a ha).2.1⟩, fun e => absurd e h2, fun e => absurd e h3, fun _ a ha => (h a ha).2.2⟩
      · rintro ⟨h, _, _, g⟩ a ha
        exact ⟨(h a ha).1, (h a ha).2, g h4 a ha⟩
  · simp only [if_neg h0, if_neg h1, if_neg h2, if_neg h3, if_neg h4]; grind

/-- What is told of a statement's parts by the depth. -/
def InnD (r : List StmtD → Int) (d : Int) (t : StmtD) : Prop :=
  (t.k = 2 ∨ t.k = 3 → (1 ≤ r t.then_ ∧ r t.then_ + (d + 1) ≤ 61) ∧ 1 ≤ r t.else_ ∧ r t.else_ + (d + 1) ≤ 61) ∧ (t.k = 4 → ∀ a ∈ t.arms, 1 ≤ r a.body ∧ r a.body + (d + 1) ≤ 61)
def LeD (r : List StmtD → Int) (b : Int) (t : StmtD) : Prop :=
  (t.k = 2 ∨ t.k = 3 → 1 + r t.then_ ≤ b ∧ 1 + r t.else_ ≤ b) ∧ (t.k = 4 → ∀ a ∈ t.arms, 1 + r a.body ≤ b)

theorem l8_ok (r : List StmtD → Int) (t : StmtD) (d : Int) (hd : 0 ≤ d) : ∀ (l : List ArmD) (a : Int), (t.k = 4 → ∀ x ∈ l, 1 ≤ r x.body ∧ r x.body + (d + 1) ≤ 61) → 1 ≤ a → a + d ≤ 61 →
    a ≤ lDeep_b_l8 r t l a ∧ lDeep_b_l8 r t l a + d ≤ 61 ∧ (t.k = 4 → ∀ x ∈ l, 1 + r x.body ≤ lDeep_b_l8 r t l a)
  | [], a, _, h1, h2 => by rw [lDeep_b_l8]; exact ⟨Int.le_refl _, h2, fun _ x hx => by cases hx⟩
  | x :: l, a, h, h1, h2 => by
    rw [lDeep_b_l8]
    by_cases h4 : t.k = 4
    · rw [if_pos h4]
      have hx := h h4 x (by simp)
      have hw : IntKind.i64.wrap (1 + r x.body) = 1 + r x.body := wrap_small (by omega) (by omega)
      rw [hw]
      generalize hb : (if 1 + r x.body > a then 1 + r x.body else a) = b
      have hb1 : a ≤ b ∧ 1 + r x.body ≤ b ∧ b + d ≤ 61 := by rw [← hb]; split <;> omega
      obtain ⟨g1, g2, g3⟩ := l8_ok r t d hd l b (fun _ y hy => h h4 y (by simp [hy])) (by omega) hb1.2.2
      refine ⟨by omega, g2, fun _ y hy => ?_⟩
      rcases List.mem_cons.1 hy with rfl | hy
      · omega
      · exact g3 h4 y hy
    · rw [if_neg h4]
      exact ⟨Int.le_refl _, h2, fun e => absurd e h4⟩

theorem l3_ok (r : List StmtD → Int) (d : Int) (hd : 0 ≤ d) : ∀ (l : List StmtD) (a : Int), (∀ t ∈ l, InnD r d t) → 1 ≤ a → a + d ≤ 61 →
    a ≤ lDeep_b_l3 r l a ∧ lDeep_b_l3 r l a + d ≤ 61 ∧ ∀ t ∈ l, LeD r (lDeep_b_l3 r l a) t
  | [], a, _, h1, h2 => by rw [lDeep_b_l3]; exact ⟨Int.le_refl _, h2, fun x hx => by cases hx⟩
  | t :: l, a, h, h1, h2 => by
    rw [lDeep_b_l3]
    dsimp only [bnd]
    obtain ⟨hA, hB⟩ := h t (by simp)
    generalize hb : (if t.k = 2 ∨ t.k = 3 then (if (IntKind.i64.wrap (1 + (if (r t.else_) > (r t.then_) then (r t.else_) else (r t.then_)))) > a then (IntKind.i64.wrap (1 + (if (r t.else_) > (r t.then_) then (r t.else_) else (r t.then_)))) else a) else a) = b
    have hb1 : a ≤ b ∧ b + d ≤ 61 ∧ (t.k = 2 ∨ t.k = 3 → 1 + r t.then_ ≤ b ∧ 1 + r t.else_ ≤ b) := by
      rw [← hb]
      by_cases hk : t.k = 2 ∨ t.k = 3
      · have := hA hk
        rw [if_pos hk]
        generalize hm : (if (r t.else_) > (r t.then_) then (r t.else_) else (r t.then_)) = m
        have hm1 : r t.else_ ≤ m ∧ r t.then_ ≤ m ∧ 1 ≤ m ∧ m + (d + 1) ≤ 61 := by rw [← hm]; split <;> omega
        rw [wrap_small (show -9223372036854775808 ≤ 1 + m by omega) (by omega)]
        split <;> exact ⟨by omega, by omega, fun _ => by omega⟩
      · rw [if_neg hk]
        exact ⟨Int.le_refl _, h2, fun e => absurd e hk⟩
    obtain ⟨g1, g2, g3⟩ := l8_ok r t d hd t.arms b (fun h4 x hx => hB h4 x hx) (by omega) hb1.2.1
    obtain ⟨f1, f2, f3⟩ := l3_ok r d hd l (lDeep_b_l8 r t t.arms b) (fun x hx => h x (by simp [hx])) (by omega) g2
    refine ⟨by omega, f2, fun x hx => ?_⟩
    rcases List.mem_cons.1 hx with rfl | hx
    · refine ⟨fun hk => ?_, fun h4 y hy => ?_⟩
      · have := hb1.2.2 hk
        omega
      · have := g3 h4 y hy
        omega
    · exact f3 x hx

theorem deep_f (k : Nat) (l : List StmtD) : lDeep_f (k + 1) l = lDeep_b_l3 (lDeep_f k) l 1 := rfl

/-- What is valid is no deeper than may be. -/
theorem deep_in : ∀ (k : Nat) (k' : Nat) (l : List StmtD) (d : Int), SizeOf.sizeOf l < k → SizeOf.sizeOf l < k' → 0 ≤ d → rValidBlock_f k l d = true → 1 ≤ lDeep_f k' l ∧ lDeep_f k' l + d ≤ 61
  | k, 0, l, d, _, h, _, _ => absurd h (Nat.not_lt_zero _)
  | 0, k' + 1, l, d, h, _, _, _ => absurd h (Nat.not_lt_zero _)
  | 1, k' + 1, l, d, h, _, _, hv => by
    have : SizeOf.sizeOf l = 0 := by omega
    cases l <;> simp at this <;> omega
  | k + 2, k' + 1, l, d, h, h', hd, hv => by
    rw [rB_eq] at hv
    simp only [Bool.and_eq_true, decide_eq_true_eq, List.all_eq_true] at hv
    have hw : IntKind.i64.wrap (d + 1) = d + 1 := wrap_small (by omega) (by omega)
    rw [deep_f]
    refine (l3_ok (lDeep_f k') d hd l 1 (fun t ht => ?_) (Int.le_refl _) (by omega)).imp id (fun x => x.1)
    have hs := (rS_split _ _ t d).1 (hv.2 t ht)
    rw [hw] at hs
    have s0 := List.sizeOf_lt_of_mem ht
    have s1 := sz_StmtD_then_ t
    have s2 := sz_StmtD_else_ t
    have s3 := sz_StmtD_arms t
    refine ⟨fun hk => ?_, fun h4 a ha => ?_⟩
    · have hB : rValidBlock_f k t.then_ (d + 1) = true := by
        rcases hk with hk | hk
        · exact (hs.2.1 hk).1
        · exact hs.2.2.1 hk
      have e1 := deep_in k k' t.then_ (d + 1) (by omega) (by omega) (by omega) hB
      refine ⟨e1, ?_⟩
      by_cases h2 : t.k = 2
      · exact deep_in k k' t.else_ (d + 1) (by omega) (by omega) (by omega) (hs.2.1 h2).2
      · have h3 : t.k = 3 := by rcases hk with hk | hk; exact absurd hk h2; exact hk
        have he : t.else_ = [] := by
          have := hs.1
          unfold rValidStmt_b at this
          have n0 : ¬ t.k = 0 := by omega
          have n1 : ¬ t.k = 1 := by omega
          simp only [if_neg n0, if_neg n1, if_neg h2, if_pos h3, Bool.and_eq_true, decide_eq_true_eq, len_nil] at this
          exact this.1.2
        rw [he]
        obtain ⟨i, rfl⟩ : ∃ i, k' = i + 1 := ⟨k' - 1, by omega⟩
        rw [deep_f, lDeep_b_l3]
        have := rB_small hB
        omega
    · have s4 := List.sizeOf_lt_of_mem ha
      have s5 := sz_ArmD_body a
      exact deep_in k k' a.body (d + 1) (by omega) (by omega) (by omega) (hs.2.2.2 h4 a ha)

/-- What is valid at one depth is so at another, if there is room for it. -/
theorem deep_move : ∀ (k : Nat) (k' : Nat) (l : List StmtD) (d d' : Int), SizeOf.sizeOf l < k → SizeOf.sizeOf l < k' → 0 ≤ d → 0 ≤ d' → rValidBlock_f k l d = true → lDeep_f k' l + d' ≤ 61 → rValidBlock_f k l d' = true
  | k, 0, l, d, _, _, h, _, _, _, _ => absurd h (Nat.not_lt_zero _)
  | 0, k' + 1, l, d, _, h, _, _, _, _, _ => absurd h (Nat.not_lt_zero _)
  | 1, k' + 1, l, d, _, h, _, _, _, hv, _ => by
    have : SizeOf.sizeOf l = 0 := by omega
    cases l <;> simp at this <;> omega
  | k + 2, k' + 1, l, d, d', h, h', hd, hd', hv, hr => by
    have hin := deep_in (k + 2) (k' + 1) l d h h' hd hv
    rw [rB_eq] at hv ⊢
    simp only [Bool.and_eq_true, decide_eq_true_eq, List.all_eq_true] at hv ⊢
    have hw : IntKind.i64.wrap (d + 1) = d + 1 := wrap_small (by omega) (by omega)
    have hw' : IntKind.i64.wrap (d' + 1) = d' + 1 := wrap_small (by omega) (by omega)
    refine ⟨by omega, fun t ht => ?_⟩
    have s0 := List.sizeOf_lt_of_mem ht
    have s1 := sz_StmtD_then_ t
    have s2 := sz_StmtD_else_ t
    have s3 := sz_StmtD_arms t
    have hs := (rS_split _ _ t d).1 (hv.2 t ht)
    rw [hw] at hs
    have hall : ∀ t ∈ l, InnD (lDeep_f k') d t := fun t ht => by
      have hs := (rS_split _ _ t d).1 (hv.2 t ht)
      rw [hw] at hs
      have s0 := List.sizeOf_lt_of_mem ht
      have s1 := sz_StmtD_then_ t
      have s2 := sz_StmtD_else_ t
      have s3 := sz_StmtD_arms t
      refine ⟨fun hk => ?_, fun h4 a ha => ?_⟩
      · have hB : rValidBlock_f k t.then_ (d + 1) = true := by
          rcases hk with hk | hk
          · exact (hs.2.1 hk).1
          · exact hs.2.2.1 hk
        refine ⟨deep_in k k' t.then_ (d + 1) (by omega) (by omega) (by omega) hB, ?_⟩
        by_cases h2 : t.k = 2
        · exact deep_in k k' t.else_ (d + 1) (by omega) (by omega) (by omega) (hs.2.1 h2).2
        · have h3 : t.k = 3 := by rcases hk with hk | hk; exact absurd hk h2; exact hk
          have he : t.else_ = [] := by
            have := hs.1
            unfold rValidStmt_b at this
            have n0 : ¬ t.k = 0 := by omega
            have n1 : ¬ t.k = 1 := by omega
            simp only [if_neg n0, if_neg n1, if_neg h2, if_pos h3, Bool.and_eq_true, decide_eq_true_eq, len_nil] at this
            exact this.1.2
          rw [he]
          obtain ⟨i, rfl⟩ : ∃ i, k' = i + 1 := ⟨k' - 1, by omega⟩
          rw [deep_f, lDeep_b_l3]
          have := rB_small hB
          omega
      · have s4 := List.sizeOf_lt_of_mem ha
        have s5 := sz_ArmD_body a
        exact deep_in k k' a.body (d + 1) (by omega) (by omega) (by omega) (hs.2.2.2 h4 a ha)
    have hle := (l3_ok (lDeep_f k') d hd l 1 hall (Int.le_refl _) (by omega)).2.2 t ht
    rw [← deep_f] at hle
    refine (rS_split _ _ t d').2 ⟨hs.1, ?_, ?_, ?_⟩
    · intro h2
      rw [hw']
      have := hle.1 (.inl h2)
      exact ⟨deep_move k k' _ (d + 1) (d' + 1) (by omega) (by omega) (by omega) (by omega) (hs.2.1 h2).1 (by omega), deep_move k k' _ (d + 1) (d' + 1) (by omega) (by omega) (by omega) (by omega) (hs.2.1 h2).2 (by omega)⟩
    · intro h3
      rw [hw']
      have := hle.1 (.inr h3)
      exact deep_move k k' _ (d + 1) (d' + 1) (by omega) (by omega) (by omega) (by omega) (hs.2.2.1 h3) (by omega)
    · intro h4 a ha
      rw [hw']
      have s4 := List.sizeOf_lt_of_mem ha
      have s5 := sz_ArmD_body a
      have := hle.2 h4 a ha
      exact deep_move k k' _ (d + 1) (d' + 1) (by omega) (by omega) (by omega) (by omega) (hs.2.2.2 h4 a ha) (by omega)

def wh (b : List StmtD) : StmtD := ⟨3, 0, [], ⟨0, [], []⟩, ⟨[], []⟩, ⟨0, [], ⟨[], []⟩, [], []⟩, ⟨true, 1, ⟨[], []⟩⟩, b, [], []⟩
def nest : Nat → List StmtD → List StmtD
  | 0, b => b
  | n + 1, b => nest n [wh b]

theorem wh_valid (b : List StmtD) (d : Int) (hd : 0 ≤ d) : rValidBlock [wh b] d = (decide (d ≤ 60) && rValidBlock b (d + 1)) := by
  have hsz : SizeOf.sizeOf [wh b] = 1 + SizeOf.sizeOf (wh b) + 1 := by simp
  have hs2 := sz_StmtD_then_ (wh b)
  have hs3 : SizeOf.sizeOf (wh b).then_ = SizeOf.sizeOf b := rfl
  obtain ⟨s, hs⟩ : ∃ s, SizeOf.sizeOf [wh b] = s + 1 := ⟨SizeOf.sizeOf (wh b) + 1, by omega⟩
  unfold rValidBlock
  rw [rB_eq, hs]
  by_cases h60 : d ≤ 60
  · rw [decide_eq_true h60, Bool.true_and, Bool.true_and, List.all_cons, List.all_nil, Bool.and_true]
    have hw : IntKind.i64.wrap (d + 1) = d + 1 := wrap_small (by omega) (by omega)
    rw [rB_free (k := SizeOf.sizeOf b + 1) (k' := s) (d + 1) (by omega) (by omega)]
    rw [Bool.eq_iff_iff, rValidStmt_f, rS_split, hw]
    have h0 : rValidStmt_b (fun _ _ => true) (rValidStmt_f s) (wh b) 0 = true := by
      unfold rValidStmt_b
      rfl
    constructor
    · intro h; exact h.2.2.1 rfl
    · intro h
      refine ⟨h0, fun e => ?_, fun _ => h, fun e => ?_⟩
      · exact absurd (show (3 : Int) = 2 from e) (by decide)
      · exact absurd (show (3 : Int) = 4 from e) (by decide)
  · rw [decide_eq_false h60]; rfl

theorem nest_valid : ∀ (n : Nat) (b : List StmtD), rValidBlock (nest n b) 1 = true ↔ n ≤ 60 ∧ rValidBlock b (1 + n) = true
  | 0, b => by simp [nest]
  | n + 1, b => by
    rw [nest, nest_valid n [wh b], wh_valid b _ (by omega), Bool.and_eq_true, decide_eq_true_eq]
    rw [show (1 + (n : Int) + 1) = 1 + ((n + 1 : Nat) : Int) by omega]
    constructor
    · rintro ⟨_, h1, h2⟩; exact ⟨by omega, h2⟩
    · rintro ⟨h1, h2⟩; exact ⟨by omega, by omega, h2⟩

theorem loop_nest : ∀ (n : Nat) (p a : Int) (b : List StmtD), 0 ≤ a → a ≤ p → p ≤ 70 → (p - a).toNat = n → lTreeDeep_l11 p b a = nest n b
  | 0, p, a, b, h1, h2, h3, hn => by
    rw [lTreeDeep_l11, if_neg (by omega)]; rfl
  | n + 1, p, a, b, h1, h2, h3, hn => by
    rw [lTreeDeep_l11, if_pos (by omega)]
    rw [wrap_small (show -9223372036854775808 ≤ a + 1 by omega) (by omega), dif_pos (by omega)]
    rw [nest]
    exact loop_nest n p (a + 1) [wh b] (by omega) (by omega) h3 (by omega)

theorem small_f : rSmall [102] = true := by
  unfold rSmall rUpper
  have h : rWord [102] = true := by
    unfold rWord
    rw [rName0 [102] (by decide) (by decide), if_pos (by decide), tLen_l2]
    rfl
  dsimp only [bnd]
  rw [h]
  rfl
theorem f_valid (b : List StmtD) : tValid05 (SourceD.mk ([]) ([]) ([(FnD.mk ([102] : List UInt8) ([]) b 0)] : List FnD)) = rValidBlock b 1 := by
  rw [valid05_eq, rValid05_eq]
  simp only [List.all_nil, List.all_cons, Bool.true_and, Bool.and_true, small_f]
  rw [show rValidFields [] = true from rfl, Bool.true_and]

theorem lTreeDeep_true (l : List StmtD) (n : Int) : lTreeDeep l n = true := by
  unfold lTreeDeep
  split
  · rfl
  · rename_i h
    have h0 : 0 ≤ n := by omega
    have h70 : n ≤ 70 := by omega
    dsimp only [bnd]
    rw [f_valid, f_valid, loop_nest n.toNat n 0 l (by omega) h0 h70 (by omega)]
    have hn := nest_valid n.toNat l
    rw [show ((n.toNat : Nat) : Int) = n by omega] at hn
    by_cases h60 : 60 ≤ n
    · rw [if_pos h60]
      cases hg : rValidBlock (nest n.toNat l) 1 with
      | false => rfl
      | true =>
        have h1 := hn.1 hg
        have h2 := rB_small (show rValidBlock_f _ l (1 + n) = true from h1.2)
        omega
    · rw [if_neg h60]
      cases hv : rValidBlock l 1 with
      | false =>
        cases hg : rValidBlock (nest n.toNat l) 1 with
        | false => rfl
        | true =>
          have h1 := (hn.1 hg).2
          have h2 := deep_in _ (SizeOf.sizeOf l + 1) l (1 + n) (Nat.lt_succ_self _) (Nat.lt_succ_self _) (by omega) (show rValidBlock_f _ l (1 + n) = true from h1)
          have h3 := deep_move _ (SizeOf.sizeOf l + 1) l (1 + n) 1 (Nat.lt_succ_self _) (Nat.lt_succ_self _) (by omega) (by omega) (show rValidBlock_f _ l (1 + n) = true from h1) (by omega)
          rw [show rValidBlock_f (SizeOf.sizeOf l + 1) l 1 = rValidBlock l 1 from rfl, hv] at h3
          cases h3
      | true =>
        cases hg : rValidBlock (nest n.toNat l) 1 with
        | true => rfl
        | false =>
          have h2 := deep_in _ (SizeOf.sizeOf l + 1) l 1 (Nat.lt_succ_self _) (Nat.lt_succ_self _) (by omega) (show rValidBlock_f _ l 1 = true from hv)
          have e : lDeep l = lDeep_f (SizeOf.sizeOf l + 1) l := rfl
          rw [e, wrap_small (show -9223372036854775808 ≤ n + lDeep_f (SizeOf.sizeOf l + 1) l by omega) (by omega)]
          by_cases hc : 60 < n + lDeep_f (SizeOf.sizeOf l + 1) l
          · rw [decide_eq_true hc]; rfl
          · have h3 := deep_move _ (SizeOf.sizeOf l + 1) l 1 (1 + n) (Nat.lt_succ_self _) (Nat.lt_succ_self _) (by omega) (by omega) (show rValidBlock_f _ l 1 = true from hv) (by omega)
            have := hn.2 ⟨by omega, h3⟩
            rw [hg] at this
            cases this
end Go.Proofs.Tryz
end
section
namespace Go.Proofs.Tryz
open Go Go.AM
attribute [local simp] wpG_op wpG_nil contG_some wpG_guard guardG_v guardG_o guardG_tup gval pureOp stepG_if isPick pickG_pick pickB_b pickOK isCall step_move step_assign step_alloc step_box boxV_some step_load step_store step_binOp step_unOp step_fieldAddr faV step_indexAddr ixA_slc ixA_arr step_extract extV_tup step_nilCheck ncV_ptr ncV_rp ncV_fn ncV_mp step_build buildV step_buildSlice bsV step_index ixV_arr ixV_str step_append apB step_makeSlice msV_i step_makeFunc over step_len step_makeMap mmV step_mapUpdate step_insert muA_map muB_mp step_lookup lkA_map lkB_mp step_slice slcV_s slcV_sl slcV_ro cutB_some slObV_arr bound_none bound_some bndV_i lenB_str lenB_ro lenB_sl lenB_nil lenB_z ld_ptr ld_rp offV_ptr offV_rp idxV_ro idxV_sl unV_not unV_neg binV_int binV_str binV_eqlb binV_neqb intOp strOp St.put updL setOb St.ev toV St.lk cellsOf AM.valOf TK.agg stv fillV places TI.zero condT_true condT_false finS resL resSlot packV ren ren1 ren0 Value.cells builtinV appendV elemsOf keepT room_of wrap_in toIdx passed Function.comp_def take_len_map lenV touchOf hid tab1 tab2 tab3 tab4 tab5 tab6 tab7 tab8 tab9 tab10 tab11 tab12 tab13 tab14 tab15 tab16 tab17 tab18 tab19 tab20 tab21 tab22 tab23 tab24 tab25 tab26 tab27 tab28 tab29 tab30 tab31 tab32 tab33 tab34 tab35 tab36 tab37 tab38 tab39 tab40 tab41 tab42 tab43 tab44 tab45 tab46 tab47 tab48 tab49 tab50 tab51 tab52 tab53 tab54 tab55 tab56 tab57 tab58 tab59 tab60 tab61 tab62 tab63 tab64 tab65 tab66 tab67 tab68 tab69 tab70 tab71 tab73 tab74 tab76 tab77 tab78 tab79 tab80 tab81 tab82 tab83 tab84 tab85 tab86 tab87 tab88 tab89 tab90 tab91 tab92 tab93 tab94 tab95 tab96 tab97 tab98 tab99 tab100 tab101 tab102 tab103 tab104 tab105 tab106 tab107 tab108 tab109 tab110 tab111 tab112 tab113 tab114 tab115 tab116 tab117 tab118 tab119 tab120 tab121 tab122 tab123 tab124 tab125 tab126 tab127 tab128 tab129 tab130 tab131 tab132 tab133 tab134 tab135 tab136 tab137 tab138 tab139 tab140 tab141 tab142 tab143 tab144 tab145 tab146 tab147 tab148 tab149 tab150 tab151 tab152 tab153 tab154 tab155 tab156 tab157 tab158 tab159 tab160 tab161 tab162 tab163 tab164 tab165 tab166 tab167 tab168 tab169 tab170 tab171 tab172 tab173 tab174 tab175 tab176 tab177 tab178 tab179 tab180 tab181 tab182 tab184 tab185 tab186 tab187 tab188 tab189 tab190 tab191 tab192 tab193 tab194 tab195 tab196 tab197 tab199 tab200 tab201 tab202 tab203 tab205 tab206 tab208 tab209 tab210 tab211 tab212 tab213 tab214 tab215 tab216 tab217 tab218 tab219 tab220 tab221 tab222 tab223 tab224 tab225 tab227 tab228 tab229 tab230 tab231 tab232 tab233 tab234 tab235 tab236 tab237 tab238 tab239 tab240 tab241 tab243 tab244 tab246 tab247 tab249 tab250 tab251 tab252 tab253 tab254 tab255 tab257 tab258 tab259 tab260 tab261 tab262 tab263 tab264 tab265 tab266 tab267 tab268 tab272 tab273 tab274 tab275 tab276 tab277 tab278 armC_eq blockC_eq bodyC_eq enumC_eq fieldC_eq fnC_eq inC_eq localC_eq mirBodyC_eq operC_eq placeC_eq rvC_eq sourceC_eq spotC_eq stepC_eq stmtC_eq structC_eq tmC_eq tyC_eq useC_eq valueC_eq variantC_eq binV_eqls binV_neqs cutL_nil cutL_junk cutL_cons ren_arr ren_gone ren_unborn ren_var ren_row step_convert cvV_i cvV_sl cvV_s cvK_slc cvE_u8 bytesOf bor1 bor2 bor3 bor4
set_option linter.unusedSimpArgs false
set_option linter.unusedVariables false
set_option maxRecDepth 10000
set_option maxHeartbeats 4000000
noncomputable section
set_option linter.unusedVariables false
theorem rd_TyD (k : Nat) (xs : List V) (h : shpW tab k 45 xs) : ∃ x : TyD, xs = tyC x ∧ True := by
  obtain ⟨yss, h1, h2, k', hk, h3⟩ := shpW_fields h (show (tab 45).kind = .str [(0, 42), (1, 9), (2, 43)] from rfl)
  match yss, h2 with
  | [y0, y1, y2], _ =>
    obtain ⟨a0, rfl, b0⟩ := shpW_int (h3 0 _ _ rfl rfl) (show (tab 42).kind = .int .i64 from rfl)
    obtain ⟨a1, rfl, b1⟩ := shpW_str (h3 1 _ _ rfl rfl) (show (tab 9).kind = .string from rfl)
    obtain ⟨a2, rfl, b2, c2⟩ := shpW_slc tyC (fun x => True) (h3 2 _ _ rfl rfl) (show (tab 43).kind = .slc 45 from rfl) (fun k _ l hl => rd_TyD k l hl)
    exact ⟨⟨a0, a1, a2⟩, by rw [h1]; simp [tyC_eq], trivial⟩
termination_by k
decreasing_by all_goals omega

theorem rd_FieldD (k : Nat) (xs : List V) (h : shpW tab k 100 xs) : ∃ x : FieldD, xs = fieldC x ∧ True := by
  obtain ⟨yss, h1, h2, k', hk, h3⟩ := shpW_fields h (show (tab 100).kind = .str [(0, 9), (1, 45)] from rfl)
  match yss, h2 with
  | [y0, y1], _ =>
    obtain ⟨a0, rfl, b0⟩ := shpW_str (h3 0 _ _ rfl rfl) (show (tab 9).kind = .string from rfl)
    obtain ⟨a1, rfl, b1⟩ := rd_TyD _ _ (h3 1 _ _ rfl rfl)
    exact ⟨⟨a0, a1⟩, by rw [h1]; simp [fieldC_eq], trivial⟩

theorem rd_StructD (k : Nat) (xs : List V) (h : shpW tab k 86 xs) : ∃ x : StructD, xs = structC x ∧ True := by
  obtain ⟨yss, h1, h2, k', hk, h3⟩ := shpW_fields h (show (tab 86).kind = .str [(0, 9), (1, 4), (2, 33), (3, 3)] from rfl)
  match yss, h2 with
  | [y0, y1, y2, y3], _ =>
    obtain ⟨a0, rfl, b0⟩ := shpW_str (h3 0 _ _ rfl rfl) (show (tab 9).kind = .string from rfl)
    obtain ⟨a1, rfl⟩ := shpW_bool (h3 1 _ _ rfl rfl) (show (tab 4).kind = .bool from rfl)
    obtain ⟨a2, rfl, b2, c2⟩ := shpW_slc fieldC (fun x => True) (h3 2 _ _ rfl rfl) (show (tab 33).kind = .slc 100 from rfl) (fun k _ l hl => rd_FieldD k l hl)
    obtain ⟨a3, rfl, b3⟩ := shpW_int (h3 3 _ _ rfl rfl) (show (tab 3).kind = .int .i64 from rfl)
    exact ⟨⟨a0, a1, a2, a3⟩, by rw [h1]; simp [structC_eq], trivial⟩

theorem rd_VariantD (k : Nat) (xs : List V) (h : shpW tab k 92 xs) : ∃ x : VariantD, xs = variantC x ∧ True := by
  obtain ⟨yss, h1, h2, k', hk, h3⟩ := shpW_fields h (show (tab 92).kind = .str [(0, 9), (1, 45)] from rfl)
  match yss, h2 with
  | [y0, y1], _ =>
    obtain ⟨a0, rfl, b0⟩ := shpW_str (h3 0 _ _ rfl rfl) (show (tab 9).kind = .string from rfl)
    obtain ⟨a1, rfl, b1⟩ := rd_TyD _ _ (h3 1 _ _ rfl rfl)
    exact ⟨⟨a0, a1⟩, by rw [h1]; simp [variantC_eq], trivial⟩

theorem rd_EnumD (k : Nat) (xs : List V) (h : shpW tab k 89 xs) : ∃ x : EnumD, xs = enumC x ∧ True := by
  obtain ⟨yss, h1, h2, k', hk, h3⟩ := shpW_fields h (show (tab 89).kind = .str [(0, 9), (1, 87), (2, 3)] from rfl)
  match yss, h2 with
  | [y0, y1, y2], _ =>
    obtain ⟨a0, rfl, b0⟩ := shpW_str (h3 0 _ _ rfl rfl) (show (tab 9).kind = .string from rfl)
    obtain ⟨a1, rfl, b1, c1⟩ := shpW_slc variantC (fun x => True) (h3 1 _ _ rfl rfl) (show (tab 87).kind = .slc 92 from rfl) (fun k _ l hl => rd_VariantD k l hl)
    obtain ⟨a2, rfl, b2⟩ := shpW_int (h3 2 _ _ rfl rfl) (show (tab 3).kind = .int .i64 from rfl)
    exact ⟨⟨a0, a1, a2⟩, by rw [h1]; simp [enumC_eq], trivial⟩

theorem rd_StepD (k : Nat) (xs : List V) (h : shpW tab k 79 xs) : ∃ x : StepD, xs = stepC x ∧ True := by
  obtain ⟨yss, h1, h2, k', hk, h3⟩ := shpW_fields h (show (tab 79).kind = .str [(0, 9)] from rfl)
  match yss, h2 with
  | [y0], _ =>
    obtain ⟨a0, rfl, b0⟩ := shpW_str (h3 0 _ _ rfl rfl) (show (tab 9).kind = .string from rfl)
    exact ⟨⟨a0⟩, by rw [h1]; simp [stepC_eq], trivial⟩

theorem rd_PlaceD (k : Nat) (xs : List V) (h : shpW tab k 39 xs) : ∃ x : PlaceD, xs = placeC x ∧ True := by
  obtain ⟨yss, h1, h2, k', hk, h3⟩ := shpW_fields h (show (tab 39).kind = .str [(0, 9), (1, 37)] from rfl)
  match yss, h2 with
  | [y0, y1], _ =>
    obtain ⟨a0, rfl, b0⟩ := shpW_str (h3 0 _ _ rfl rfl) (show (tab 9).kind = .string from rfl)
    obtain ⟨a1, rfl, b1, c1⟩ := shpW_slc stepC (fun x => True) (h3 1 _ _ rfl rfl) (show (tab 37).kind = .slc 79 from rfl) (fun k _ l hl => rd_StepD k l hl)
    exact ⟨⟨a0, a1⟩, by rw [h1]; simp [placeC_eq], trivial⟩

theorem rd_OperD (k : Nat) (xs : List V) (h : shpW tab k 41 xs) : ∃ x : OperD, xs = operC x ∧ True := by
  obtain ⟨yss, h1, h2, k', hk, h3⟩ := shpW_fields h (show (tab 41).kind = .str [(0, 4), (1, 3), (2, 39)] from rfl)
  match yss, h2 with
  | [y0, y1, y2], _ =>
    obtain ⟨a0, rfl⟩ := shpW_bool (h3 0 _ _ rfl rfl) (show (tab 4).kind = .bool from rfl)
    obtain ⟨a1, rfl, b1⟩ := shpW_int (h3 1 _ _ rfl rfl) (show (tab 3).kind = .int .i64 from rfl)
    obtain ⟨a2, rfl, b2⟩ := rd_PlaceD _ _ (h3 2 _ _ rfl rfl)
    exact ⟨⟨a0, a1, a2⟩, by rw [h1]; simp [operC_eq], trivial⟩

theorem rd_RvD (k : Nat) (xs : List V) (h : shpW tab k 49 xs) : ∃ x : RvD, xs = rvC x ∧ True := by
  obtain ⟨yss, h1, h2, k', hk, h3⟩ := shpW_fields h (show (tab 49).kind = .str [(0, 46), (1, 47), (2, 39), (4, 9), (5, 9)] from rfl)
  match yss, h2 with
  | [y0, y1, y2, y3, y4], _ =>
    obtain ⟨a0, rfl, b0⟩ := shpW_int (h3 0 _ _ rfl rfl) (show (tab 46).kind = .int .i64 from rfl)
    obtain ⟨a1, rfl, b1, c1⟩ := shpW_slc operC (fun x => True) (h3 1 _ _ rfl rfl) (show (tab 47).kind = .slc 41 from rfl) (fun k _ l hl => rd_OperD k l hl)
    obtain ⟨a2, rfl, b2⟩ := rd_PlaceD _ _ (h3 2 _ _ rfl rfl)
    obtain ⟨a3, rfl, b3⟩ := shpW_str (h3 3 _ _ rfl rfl) (show (tab 9).kind = .string from rfl)
    obtain ⟨a4, rfl, b4⟩ := shpW_str (h3 4 _ _ rfl rfl) (show (tab 9).kind = .string from rfl)
    exact ⟨⟨a0, a1, a2, a3, a4⟩, by rw [h1]; simp [rvC_eq], trivial⟩

mutual
theorem rd_ArmD (k : Nat) (xs : List V) (h : shpW tab k 136 xs) : ∃ x : ArmD, xs = armC x ∧ True := by
  obtain ⟨yss, h1, h2, k', hk, h3⟩ := shpW_fields h (show (tab 136).kind = .str [(0, 9), (1, 9), (2, 32)] from rfl)
  match yss, h2 with
  | [y0, y1, y2], _ =>
    obtain ⟨a0, rfl, b0⟩ := shpW_str (h3 0 _ _ rfl rfl) (show (tab 9).kind = .string from rfl)
    obtain ⟨a1, rfl, b1⟩ := shpW_str (h3 1 _ _ rfl rfl) (show (tab 9).kind = .string from rfl)
    obtain ⟨a2, rfl, b2, c2⟩ := shpW_slc stmtC (fun x => True) (h3 2 _ _ rfl rfl) (show (tab 32).kind = .slc 52 from rfl) (fun k _ l hl => rd_StmtD k l hl)
    exact ⟨⟨a0, a1, a2⟩, by rw [h1]; simp [armC_eq], trivial⟩
termination_by k
decreasing_by all_goals omega

theorem rd_StmtD (k : Nat) (xs : List V) (h : shpW tab k 52 xs) : ∃ x : StmtD, xs = stmtC x ∧ True := by
  obtain ⟨yss, h1, h2, k', hk, h3⟩ := shpW_fields h (show (tab 52).kind = .str [(0, 36), (1, 3), (2, 9), (3, 45), (6, 39), (8, 49), (14, 41), (18, 32), (19, 32), (20, 50)] from rfl)
  match yss, h2 with
  | [y0, y1, y2, y3, y4, y5, y6, y7, y8, y9], _ =>
    obtain ⟨a0, rfl, b0⟩ := shpW_int (h3 0 _ _ rfl rfl) (show (tab 36).kind = .int .i64 from rfl)
    obtain ⟨a1, rfl, b1⟩ := shpW_int (h3 1 _ _ rfl rfl) (show (tab 3).kind = .int .i64 from rfl)
    obtain ⟨a2, rfl, b2⟩ := shpW_str (h3 2 _ _ rfl rfl) (show (tab 9).kind = .string from rfl)
    obtain ⟨a3, rfl, b3⟩ := rd_TyD _ _ (h3 3 _ _ rfl rfl)
    obtain ⟨a4, rfl, b4⟩ := rd_PlaceD _ _ (h3 4 _ _ rfl rfl)
    obtain ⟨a5, rfl, b5⟩ := rd_RvD _ _ (h3 5 _ _ rfl rfl)
    obtain ⟨a6, rfl, b6⟩ := rd_OperD _ _ (h3 6 _ _ rfl rfl)
    obtain ⟨a7, rfl, b7, c7⟩ := shpW_slc stmtC (fun x => True) (h3 7 _ _ rfl rfl) (show (tab 32).kind = .slc 52 from rfl) (fun k _ l hl => rd_StmtD k l hl)
    obtain ⟨a8, rfl, b8, c8⟩ := shpW_slc stmtC (fun x => True) (h3 8 _ _ rfl rfl) (show (tab 32).kind = .slc 52 from rfl) (fun k _ l hl => rd_StmtD k l hl)
    obtain ⟨a9, rfl, b9, c9⟩ := shpW_slc armC (fun x => True) (h3 9 _ _ rfl rfl) (show (tab 50).kind = .slc 136 from rfl) (fun k _ l hl => rd_ArmD k l hl)
    exact ⟨⟨a0, a1, a2, a3, a4, a5, a6, a7, a8, a9⟩, by rw [h1]; simp [stmtC_eq], trivial⟩
termination_by k
decreasing_by all_goals omega
end

theorem rd_FnD (k : Nat) (xs : List V) (h : shpW tab k 35 xs) : ∃ x : FnD, xs = fnC x ∧ True := by
  obtain ⟨yss, h1, h2, k', hk, h3⟩ := shpW_fields h (show (tab 35).kind = .str [(0, 9), (1, 33), (2, 32), (3, 3)] from rfl)
  match yss, h2 with
  | [y0, y1, y2, y3], _ =>
    obtain ⟨a0, rfl, b0⟩ := shpW_str (h3 0 _ _ rfl rfl) (show (tab 9).kind = .string from rfl)
    obtain ⟨a1, rfl, b1, c1⟩ := shpW_slc fieldC (fun x => True) (h3 1 _ _ rfl rfl) (show (tab 33).kind = .slc 100 from rfl) (fun k _ l hl => rd_FieldD k l hl)
    obtain ⟨a2, rfl, b2, c2⟩ := shpW_slc stmtC (fun x => True) (h3 2 _ _ rfl rfl) (show (tab 32).kind = .slc 52 from rfl) (fun k _ l hl => rd_StmtD k l hl)
    obtain ⟨a3, rfl, b3⟩ := shpW_int (h3 3 _ _ rfl rfl) (show (tab 3).kind = .int .i64 from rfl)
    exact ⟨⟨a0, a1, a2, a3⟩, by rw [h1]; simp [fnC_eq], trivial⟩

theorem rd_SourceD (k : Nat) (xs : List V) (h : shpW tab k 26 xs) : ∃ x : SourceD, xs = sourceC x ∧ True := by
  obtain ⟨yss, h1, h2, k', hk, h3⟩ := shpW_fields h (show (tab 26).kind = .str [(0, 22), (1, 23), (2, 24)] from rfl)
  match yss, h2 with
  | [y0, y1, y2], _ =>
    obtain ⟨a0, rfl, b0, c0⟩ := shpW_slc structC (fun x => True) (h3 0 _ _ rfl rfl) (show (tab 22).kind = .slc 86 from rfl) (fun k _ l hl => rd_StructD k l hl)
    obtain ⟨a1, rfl, b1, c1⟩ := shpW_slc enumC (fun x => True) (h3 1 _ _ rfl rfl) (show (tab 23).kind = .slc 89 from rfl) (fun k _ l hl => rd_EnumD k l hl)
    obtain ⟨a2, rfl, b2, c2⟩ := shpW_slc fnC (fun x => True) (h3 2 _ _ rfl rfl) (show (tab 24).kind = .slc 35 from rfl) (fun k _ l hl => rd_FnD k l hl)
    exact ⟨⟨a0, a1, a2⟩, by rw [h1]; simp [sourceC_eq], trivial⟩
end
end Go.Proofs.Tryz
end
section
namespace Go.Proofs.YtakfpmogpnoibaaGreatDoor
open Go.ChangeShapes Go.WideShapes Go.ChangeAt Go.RowKit Go.AM Go.Proofs.Tryz

theorem ownKnobNone : ownKnob Tryz.prog.godebug = none := by kernel_rfl
theorem laidOutAll : laidOutB Tryz.prog = true := by kernel_rfl
def readT : List TypeId := [3, 4, 9, 22, 23, 24, 26, 32, 33, 35, 36, 37, 39, 41, 42, 43, 45, 46, 47, 49, 50, 52, 79, 86, 87, 89, 92, 100, 136]
theorem readT_closed : closedS tab readT = true := by decide +kernel

theorem gokOf {W : World} {L : List (String × DataW Unit)} (hL : L.drop 2 = [("internal/strconv.uint64pow10", Lib.tabData .u64 Lib.pow10Tab)])
    (hp : (L.all fun x => x.2.handleName?.isNone) = true) (h : laidMetH Tryz.prog L W) : GOK Tryz.prog W (fun _ => False) := by
  rw [MakeChecks.laidMetH_plain _ _ _ hp] at h
  obtain ⟨a, b, rfl⟩ : ∃ a b, L = [a, b, ("internal/strconv.uint64pow10", Lib.tabData .u64 Lib.pow10Tab)] := by
    match L, hL with
    | a :: b :: r, hL => exact ⟨a, b, by rw [show r = _ from hL]⟩
  have h1 := Lib.tabIs_of_head (g := 0) (t := 261) (e := 247) (n := 20) (by kernel_rfl) (by kernel_rfl) (by kernel_rfl) (by kernel_rfl) (by kernel_rfl) (by kernel_rfl) (laidMet.tail (laidMet.tail h))
  intro e he
  obtain rfl := List.mem_singleton.1 he
  refine ⟨h1, fun g hg => ⟨?_, not_false⟩⟩
  unfold Lib.TabIs World.var? at h1
  rw [hg] at h1
  simp only [Option.bind_some] at h1
  rcases Nat.lt_or_ge g W.heap.size with h' | h'
  · exact h'
  · rw [Array.getElem?_eq_none h'] at h1; cases h1
end Go.Proofs.YtakfpmogpnoibaaGreatDoor
end
section
namespace Go.Proofs.YtakfpmogpnoibaaGreatDoor
open Go.ChangeShapes Go.WideShapes Go.ChangeAt Go.RowKit Go.AM Go.Proofs.Tryz

set_option maxRecDepth 100000 in
theorem treeDeepLifted (HQ : ∀ (x0 : V) (z1 : Int) (n0 : Nat), shpW tab n0 32 [x0] → (Lit.int .i64 z1).wf = true → QC Tryz.prog 7 [x0, .i .i64 z1] [] (.b true) []) (os : Os) (started : os.Started) (H : Type) (enc : TypeId × Value → H) :
    ReturnsInHanded {} Tryz.checked os 7 .any (fun w args => (Rows.treeDeepSpec.pre enc Tryz.prog Tryz.f7 Rows.treeDeepRow.domain false w args ∧ laidMetH Tryz.prog Rows.treeDeepRow.laid w) ∧ sizedMet enc Tryz.prog Tryz.f7 (OpenSpec.ofChange Rows.treeDeepSpec) false w args)
      (Rows.treeDeepSpec.post enc Tryz.prog Tryz.f7 false true false false) := by
  refine returnsInHanded_of_change_and (C := Tryz.checked) (X := fun w _ => laidMetH Tryz.prog Rows.treeDeepRow.laid w) (fun _ _ _ hh h => h.of_heap hh) ownKnobNone started (by kernel_rfl) Tryz.func7
    (ChangeSpec.witness_shaped (enc := enc) (C := Tryz.checked) (os := os) (X := fun w _ => laidMetH Tryz.prog Rows.treeDeepRow.laid w) false (World.laidAll Tryz.prog os Rows.treeDeepRow.laid) #[.slice none 0 0, .int .i64 0] 8 (World.laidAll_os _ _ _)
      (World.shaped_of_ZipB (by kernel_rfl) (by kernel_rfl)) (by kernel_rfl) (by kernel_rfl) (by kernel_rfl)
      (by rw [MakeChecks.laidMetH_plain _ _ _ (by kernel_rfl)]; exact laidMet_laidAll _ (by kernel_rfl) (by kernel_rfl))) ?_
  intro W base args ds gs before hval0 hW _ hwt hL _
  have hval : ∀ (j : Nat) t v, Tryz.f7.params[j]? = some t → args[j]? = some v → Value.okWide Tryz.prog W .any base t v := hval0
  have hW' := hW
  obtain ⟨p, q, hA0, hV, rfl, _, _⟩ := hW
  have hA : DataW.TrodAll enc Tryz.prog W 0 (fun _ => true) true Tryz.f7.params.toList args.toList ds p := hA0
  rw [Tryz.params7] at hA hval
  have hw : ∀ x ∈ DataW.weightsEach Tryz.prog (Tryz.f7.params.toList ++ Rows.treeDeepSpec.plain.varTypes Tryz.prog) (ds ++ gs), x ≤ reachBytes := fun x hx => of_decide_eq_true (List.all_eq_true.1 hwt x hx)
  obtain ⟨v0, v1, d0, d1, p0, p1, rfl, rfl, rfl, h0, h1⟩ := trodAll_two hA
  obtain ⟨rfl, rfl⟩ := trodVars_none hV
  rw [Tryz.params7] at hw
  have hw0 : ∀ q ∈ d0.weights Tryz.prog 32, q ≤ reachBytes := fun q hq => hw q (DataW.weights_mem_each (j := 0) rfl rfl q hq)
  obtain ⟨z1, rfl, rfl, rfl, wf1⟩ := open_int (show Tryz.prog.underlying 3 = some (.int .i64) from Tryz.underlying3) (hval 1 3 v1 rfl rfl) h1
  simp only [List.append_nil] at hW'
  have hlt : ∀ x ∈ p0, x.block < W.heap.size := fun x hx => by simpa using hW'.lt x (by simpa using hx)
  obtain ⟨x0, ⟨n0, hs0⟩, hr0⟩ := arg_sliceW tabOK (T := tab) (t := 32) (S := readT) readT_closed rfl (by decide) (hval 0 32 v0 rfl rfl) h0 hw0
  refine ((HQ x0 z1 n0 hs0 wf1).truth (gokOf (L := Rows.treeDeepRow.laid) (by kernel_rfl) (by kernel_rfl) hL) (vs := #[v0, .int .i64 z1]) (W := W) rfl (fun ok hok D j x u hx hu => ?_)).mono fun e W' ⟨he, hb⟩ => ?_
  · match j with
    | 0 =>
      simp only [List.getElem?_cons_succ, List.getElem?_cons_zero, Option.some.injEq] at hx
      subst hx
      obtain rfl : v0 = u := by simpa using hu
      exact hr0 ok hok D
    | 1 =>
      simp only [List.getElem?_cons_succ, List.getElem?_cons_zero, Option.some.injEq] at hx
      subst hx
      obtain rfl : Value.int .i64 z1 = u := by simpa using hu
      exact .pure (.i _ _)
    | j + 2 => simp at hx
  · subst he
    refine ⟨_, rfl, _, _, _, [], p0, [], by simpa using hW', ?_, ?_, ?_, hb.frame _, fun h => by cases h⟩
    · exact trodAll_mk1 (shut_bool Tryz.underlying4 true)
    · have hpl : p0 ++ (([] : List MemPlace)) = p0 := by simp
      rw [← hpl]
      exact trodAll_mk2 (Below.trod laidOutAll (by kernel_rfl) (of_decide_eq_true (by kernel_rfl)) h0 hb hlt) (Below.trod laidOutAll (by kernel_rfl) (of_decide_eq_true (by kernel_rfl)) h1 hb (fun x hx => by cases hx))
    · rfl

theorem treeDeepHolds (HQ : ∀ (x0 : V) (z1 : Int) (n0 : Nat), shpW tab n0 32 [x0] → (Lit.int .i64 z1).wf = true → QC Tryz.prog 7 [x0, .i .i64 z1] [] (.b true) []) : Rows.TreeDeepSaid :=
  OpenClaim.holds_of_wide 7 Tryz.f7 rfl rfl rfl rfl rfl rfl rfl ⟨rfl, rfl, rfl, rfl, rfl⟩ rfl rfl rfl rfl rfl (by kernel_rfl) Tryz.func7 (by kernel_rfl)
    (of_decide_eq_true (by kernel_rfl)) (by unfold Func.isWrapper; rw [if_neg (by decide +kernel)]; exact ⟨rfl, rfl⟩)
    (fun os started H enc _ => treeDeepLifted HQ os started H enc)

theorem treeDeepCard (HQ : ∀ (x0 : V) (z1 : Int) (n0 : Nat), shpW tab n0 32 [x0] → (Lit.int .i64 z1).wf = true → QC Tryz.prog 7 [x0, .i .i64 z1] [] (.b true) []) : Rows.TreeDeepCardSaid :=
  Claim7.holds_tied_plain_at .later [] [.data, .data, .data] true (true, "5fb048d045625182b10262516d9c4193a6b1e98e8e618b184d271e5fcbaa7853") false (treeDeepHolds HQ) (fun _ h => by cases h) (by kernel_rfl) (fun _ h => by cases h) treeDeep_row_tie rfl ⟨rfl, rfl⟩ (by kernel_rfl) rfl
    (fun f fn hf hfn => by
      obtain rfl : f = 7 := Option.some.inj ((show Tryz.prog.funcNamed "cocoon/cocoonlaw05.TreeDeep" = some 7 by kernel_rfl).symm.trans hf) |>.symm
      obtain rfl : fn = Tryz.f7 := (Option.some.inj (Tryz.func7.symm.trans hfn)).symm
      exact ⟨by kernel_rfl, fun j t ht => by
        rw [Tryz.params7] at ht
        have hm : t ∈ [32, 3] := by simpa using Array.mem_of_getElem? ht
        have hall : ([32, 3].all fun u => !Tryz.prog.wantsStandIn u) = true := by kernel_rfl
        exact (show Tryz.prog.wantsStandIn t = false by simpa using List.all_eq_true.1 hall t hm)⟩)
    (by kernel_rfl)

theorem treeDeep_card : Rows.TreeDeepCardSaid := treeDeepCard fun x0 z1 n0 hs0 hz1 => by
  obtain ⟨l, hl, _⟩ := shpW_slc stmtC (fun _ => True) hs0 (show (tab 32).kind = .slc 52 from rfl) (fun k _ l hl => rd_StmtD k l hl)
  obtain rfl := List.head_eq_of_cons_eq hl
  have h := w_lTreeDeep l z1
  rw [lTreeDeep_true] at h
  exact h
end Go.Proofs.YtakfpmogpnoibaaGreatDoor
end
