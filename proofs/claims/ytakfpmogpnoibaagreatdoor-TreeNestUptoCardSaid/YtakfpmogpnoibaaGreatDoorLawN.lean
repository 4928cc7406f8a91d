/- A statement that stands in a while has its own text, each line one tab further in; so do all: TreeNest, tied, where what it reads is of bulk at most 1048576. -/
import Derived.Test.YtakfpmogpnoibaaGreatDoorTie
import Derived.Test.YtakfpmogpnoibaaGreatDoorCards
import Derived.ProofKit
import Derived.OpenShut
import Derived.LaidMore
import Derived.Lay
import Derived.SevenTiedAt
import Derived.Stop.Joined
import Derived.Stop.LaidErr
import Derived.Test.YtakfpmogpnoibaaGreatDoorPlaR
import Derived.Test.YtakfpmogpnoibaaGreatDoorRefA
import Derived.Test.YtakfpmogpnoibaaGreatDoorMachD
set_option linter.unusedVariables false
set_option linter.unusedSimpArgs false
set_option linter.constructorNameAsVariable false
section
namespace Go.Proofs.Tryz
open Go Go.AM
attribute [local simp] wpG_op wpG_nil contG_some wpG_guard guardG_v guardG_o guardG_tup gval pureOp stepG_if isPick pickG_pick pickB_b pickOK isCall step_move step_assign step_alloc step_box boxV_some step_load step_store step_binOp step_unOp step_fieldAddr faV step_indexAddr ixA_slc ixA_arr step_extract extV_tup step_nilCheck ncV_ptr ncV_rp ncV_fn ncV_mp step_build buildV step_buildSlice bsV step_index ixV_arr ixV_str step_append apB step_makeSlice msV_i step_makeFunc over step_len step_makeMap mmV step_mapUpdate step_insert muA_map muB_mp step_lookup lkA_map lkB_mp step_slice slcV_s slcV_sl slcV_ro cutB_some slObV_arr bound_none bound_some bndV_i lenB_str lenB_ro lenB_sl lenB_nil lenB_z ld_ptr ld_rp offV_ptr offV_rp idxV_ro idxV_sl unV_not unV_neg binV_int binV_str binV_eqlb binV_neqb intOp strOp St.put updL setOb St.ev toV St.lk cellsOf AM.valOf TK.agg stv fillV places TI.zero condT_true condT_false finS resL resSlot packV ren ren1 ren0 Value.cells builtinV appendV elemsOf keepT room_of wrap_in toIdx passed Function.comp_def take_len_map lenV touchOf hid tab1 tab2 tab3 tab4 tab5 tab6 tab7 tab8 tab9 tab20 tab22 tab23 tab24 tab26 tab32 tab33 tab35 tab36 tab37 tab39 tab41 tab42 tab43 tab45 tab46 tab47 tab49 tab50 tab52 tab74 tab79 tab83 tab86 tab87 tab89 tab92 tab100 tab101 tab102 tab103 tab105 tab107 tab108 tab113 tab114 tab116 tab117 tab118 tab122 tab123 tab125 tab127 tab130 tab132 tab136 tab173 tab175 tab178 tab179 tab180 tab182 tab189 tab215 tab219 tab220 tab224 tab225 tab241 tab244 tab247 tab253 tab261 tab262 tab265 tab266 armC_eq blockC_eq bodyC_eq enumC_eq fieldC_eq fnC_eq inC_eq localC_eq mirBodyC_eq operC_eq placeC_eq rvC_eq sourceC_eq spotC_eq stepC_eq stmtC_eq structC_eq tmC_eq tyC_eq useC_eq valueC_eq variantC_eq binV_eqls binV_neqs cutL_nil cutL_junk cutL_cons ren_arr ren_gone ren_unborn ren_var ren_row step_convert cvV_i cvV_sl cvV_s cvK_slc cvE_u8 bytesOf bor1 bor2 bor3 bor4
set_option linter.unusedSimpArgs false
set_option linter.unusedVariables false
set_option maxRecDepth 10000
set_option maxHeartbeats 4000000
noncomputable section
def lBody_l2 (p0 : List UInt8) (a2_0 : Int) : Int :=
  (bnd (p0.getD ((a2_0).toNat) 0) fun (y2_7 : UInt8) => (if (a2_0 < (p0.length : Int)) ∧ (¬ ((y2_7.toNat : Int) = 10)) then (if _h : (((p0.length : Int) + 1 - ((IntKind.i64.wrap (a2_0 + 1)))).toNat) < (((p0.length : Int) + 1 - a2_0).toNat) then lBody_l2 p0 (IntKind.i64.wrap (a2_0 + 1)) else default) else a2_0))
  termination_by ((p0.length : Int) + 1 - a2_0).toNat
  decreasing_by exact _h
def lBody_l5 (p0 : List UInt8) (a5_0 : Int) : Int :=
  (bnd (p0.getD (((IntKind.i64.wrap (a5_0 - 1))).toNat) 0) fun (y5_6 : UInt8) => (if (0 < a5_0) ∧ (¬ ((y5_6.toNat : Int) = 10)) then (if _h : ((((IntKind.i64.wrap (a5_0 - 1))) + 2).toNat) < ((a5_0 + 2).toNat) then lBody_l5 p0 (IntKind.i64.wrap (a5_0 - 1)) else default) else a5_0))
  termination_by (a5_0 + 2).toNat
  decreasing_by exact _h
def lBody (p0 : List UInt8) : (List UInt8) :=
  (bnd (lBody_l2 p0 0) fun (v2 : Int) => (bnd (lBody_l5 p0 (IntKind.i64.wrap ((p0.length : Int) - 1))) fun (v5 : Int) => (if v5 < (IntKind.i64.wrap (v2 + 1)) then ([] : List UInt8) else ((p0.drop (((IntKind.i64.wrap (v2 + 1))).toNat)).take ((v5).toNat - ((IntKind.i64.wrap (v2 + 1))).toNat)))))
set_option maxHeartbeats 40000000 in
theorem w_lBody (p0 : List UInt8) (hl : p0.length ≤ 100000000000000) : QC prog 17 [.s p0] [] (.s (lBody p0)) [] := by
  refine QC.of_body tabOK func17 rfl (by kernel_rfl) ?_
  simp only [f17]
  generalize e : lBody p0 = R
  unfold lBody at e
  refine EV.seq ?_
  refine EV.regionG tabOK ?_ -- region 0
  simp (maxSteps := 2000000) -implicitDefEqProofs
  refine EV.seq ?_
  refine EV.regionG tabOK ?_ -- region 1
  simp (maxSteps := 2000000) -implicitDefEqProofs
  refine EV.seq ?_
  obtain ⟨z2, e2, e⟩ := bnd_split e
  refine EV.nrm (fun v : { v : (Int) × (Unit) // z2 = v.1 ∧ (fun (v2 : Int) => 0 ≤ v2 ∧ v2 ≤ (p0.length : Int)) v.1 } => (fun (v2 : Int) (g2 : Unit) => (⟨[.s p0, .junk, .junk, .i .i64 v2, .junk, .junk, .junk, .junk, .junk, .junk, .junk, .junk, .junk, .junk, .junk, .junk, .junk, .junk, .junk, .junk, .junk, .junk, .junk, .junk, .junk, .junk, .junk, .junk, .junk, .junk, .junk, .junk, .junk, .junk, .junk, .junk, .junk, .junk, .junk, .junk], []⟩ : St)) v.1.1 v.1.2) ?_ ?_
  · skip
    refine EV.block ?_
    refine EV.loopB (fun x : { x : Int // lBody_l2 p0 x = z2 ∧ (fun (a2_0 : Int) => 0 ≤ a2_0 ∧ a2_0 ≤ (p0.length : Int)) x } => (fun (a2_0 : Int) => (⟨[.s p0, .junk, .junk, .i .i64 a2_0, .junk, .junk, .junk, .junk, .junk, .junk, .junk, .junk, .junk, .junk, .junk, .junk, .junk, .junk, .junk, .junk, .junk, .junk, .junk, .junk, .junk, .junk, .junk, .junk, .junk, .junk, .junk, .junk, .junk, .junk, .junk, .junk, .junk, .junk, .junk, .junk], []⟩ : St)) x.1) (fun x => (fun (a2_0 : Int) => ((p0.length : Int) + 1 - a2_0).toNat) x.1) ⟨0, e2, by ((try dsimp only); first | omega | (simp only [IntKind.wrap_i64] at *; omega))⟩ ?_ ?_
    · skip
      try dsimp only
      try dsimp only
      refine Sub.cutF 0 (by simp) ?_ ?_ <;> simp [List.range_succ, toIdx_range, passed]
    · skip
      rintro ⟨a2_0, e2, q2⟩
      simp only at e2 ⊢
      try dsimp only at q2
      rw [lBody_l2] at e2
      rw [dif_pos (by simp only [IntKind.wrap_i64]; omega)] at e2
      refine EV.seq ?_
      refine EV.seq ?_
      obtain ⟨y2_7, gy2_7⟩ : ∃ z, (p0.getD ((a2_0).toNat) 0) = z := ⟨_, rfl⟩
      replace e2 := bnd_on e2 gy2_7
      try dsimp only at e2
      refine EV.nrm (fun _ : Unit => (⟨[.s p0, .junk, .junk, .i .i64 a2_0, .junk, .junk, .junk, .junk, .junk, .junk, .junk, .junk, .junk, .junk, .b ((decide (a2_0 < (p0.length : Int))) && (!(decide ((y2_7.toNat : Int) = 10)))), .junk, .junk, .junk, .junk, .junk, .junk, .junk, .junk, .junk, .junk, .junk, .junk, .junk, .junk, .junk, .junk, .junk, .junk, .junk, .junk, .junk, .junk, .junk, .junk, .junk], []⟩ : St)) ?_ ?_
      · skip
        by_cases k2 : a2_0 < (p0.length : Int)
        · skip
          have kk2 := k2
          try simp at kk2
          have b3 : 0 ≤ a2_0 ∧ a2_0 < (p0.length : Int) := by (first | omega | (simp only [IntKind.wrap_i64] at *; omega))
          have c3 : (a2_0).toNat < p0.length := by omega
          have hy2_7 : p0[(a2_0).toNat] = y2_7 := by rw [← gy2_7, List.getD_eq_getElem?_getD, List.getElem?_eq_getElem c3]; rfl
          refine EV.regionG tabOK ?_ -- region 2
          simp (maxSteps := 2000000) -implicitDefEqProofs +contextual [k2, kk2, b3, c3, hy2_7]
          refine ⟨(), ?_⟩
          try dsimp only
          refine Sub.cutF 0 (by simp) ?_ ?_ <;> simp [List.range_succ, toIdx_range, passed, k2, kk2, b3, c3, hy2_7]
        · skip
          have kk2 := k2
          try simp at kk2
          refine EV.regionG tabOK ?_ -- region 2
          simp (maxSteps := 2000000) -implicitDefEqProofs +contextual [k2, kk2]
          refine ⟨(), ?_⟩
          try dsimp only
          refine Sub.cutF 0 (by simp) ?_ ?_ <;> simp [List.range_succ, toIdx_range, passed, k2, kk2]
      · skip
        rintro _
        simp only [thenK_normal, blockK_normal, scopeK_normal, bodyK_normal]
        refine EV.condT ?_
        simp -implicitDefEqProofs
        refine condT_intro (fun k4 => ?_) (fun k4 => ?_)
        · try simp at k4
          obtain ⟨f4, e2⟩ := pos_on2 e2 (by first | simpa using k4 | grind)
          try simp at f4
          refine EV.skip ?_
          simp only [thenK_normal, blockK_normal, scopeK_normal]
          refine EV.block ?_
          refine EV.regionG tabOK ?_ -- region 3
          simp (maxSteps := 2000000) -implicitDefEqProofs
          refine ⟨⟨(IntKind.i64.wrap (a2_0 + 1)), e2, by ((try dsimp only); first | omega | (simp only [IntKind.wrap_i64] at *; omega))⟩, by (dsimp only; simp only [IntKind.wrap_i64] at *; omega), ?_⟩
          try dsimp only
          refine Sub.cutF 0 (by simp) ?_ ?_ <;> simp [List.range_succ, toIdx_range, passed]
        · try simp at k4
          obtain ⟨f4, e2⟩ := neg_on2 e2 (by first | simpa using k4 | grind)
          try simp at f4
          refine EV.exit ?_
          simp -implicitDefEqProofs
          refine ⟨⟨(a2_0, ()), e2.symm, by ((try dsimp only); first | omega | (simp only [IntKind.wrap_i64] at *; omega))⟩, ?_⟩
          try dsimp only
          refine Sub.cutF 0 (by simp) ?_ ?_ <;> simp [List.range_succ, toIdx_range, passed]
  · skip
    rintro ⟨⟨v2, g2⟩, e2, p2⟩
    simp only [thenK_normal, blockK_normal, scopeK_normal, bodyK_normal]
    try dsimp only at p2
    replace e := bnd_on e e2
    try dsimp only at e
    refine EV.seq ?_
    refine EV.regionG tabOK ?_ -- region 4
    simp (maxSteps := 2000000) -implicitDefEqProofs
    refine EV.seq ?_
    obtain ⟨z5, e5, e⟩ := bnd_split e
    refine EV.nrm (fun v : { v : (Int) × (Unit) // z5 = v.1 ∧ (fun (v5 : Int) => -1 ≤ v5 ∧ v5 ≤ (p0.length : Int) - 1) v.1 } => (fun (v5 : Int) (g5 : Unit) => (⟨[.s p0, .junk, .junk, .i .i64 v2, .i .i64 v5, .junk, .junk, .junk, .junk, .junk, .junk, .junk, .junk, .junk, .junk, .junk, .junk, .junk, .junk, .junk, .junk, .junk, .junk, .junk, .junk, .junk, .junk, .junk, .junk, .junk, .junk, .junk, .junk, .junk, .junk, .junk, .junk, .junk, .junk, .junk], []⟩ : St)) v.1.1 v.1.2) ?_ ?_
    · skip
      refine EV.block ?_
      refine EV.loopB (fun x : { x : Int // lBody_l5 p0 x = z5 ∧ (fun (a5_0 : Int) => -1 ≤ a5_0 ∧ a5_0 ≤ (p0.length : Int) - 1) x } => (fun (a5_0 : Int) => (⟨[.s p0, .junk, .junk, .i .i64 v2, .i .i64 a5_0, .junk, .junk, .junk, .junk, .junk, .junk, .junk, .junk, .junk, .junk, .junk, .junk, .junk, .junk, .junk, .junk, .junk, .junk, .junk, .junk, .junk, .junk, .junk, .junk, .junk, .junk, .junk, .junk, .junk, .junk, .junk, .junk, .junk, .junk, .junk], []⟩ : St)) x.1) (fun x => (fun (a5_0 : Int) => (a5_0 + 2).toNat) x.1) ⟨(IntKind.i64.wrap ((p0.length : Int) - 1)), e5, by ((try dsimp only); first | omega | (simp only [IntKind.wrap_i64] at *; omega))⟩ ?_ ?_
      · skip
        try dsimp only
        try dsimp only
        refine Sub.cutF 0 (by simp) ?_ ?_ <;> simp [List.range_succ, toIdx_range, passed]
      · skip
        rintro ⟨a5_0, e5, q5⟩
        simp only at e5 ⊢
        try dsimp only at q5
        rw [lBody_l5] at e5
        rw [dif_pos (by simp only [IntKind.wrap_i64]; omega)] at e5
        refine EV.seq ?_
        refine EV.seq ?_
        obtain ⟨y5_6, gy5_6⟩ : ∃ z, (p0.getD (((IntKind.i64.wrap (a5_0 - 1))).toNat) 0) = z := ⟨_, rfl⟩
        replace e5 := bnd_on e5 gy5_6
        try dsimp only at e5
        refine EV.nrm (fun _ : Unit => (⟨[.s p0, .junk, .junk, .i .i64 v2, .i .i64 a5_0, .junk, .junk, .junk, .junk, .junk, .junk, .junk, .junk, .junk, .junk, .junk, .junk, .junk, .junk, .junk, .junk, .junk, .junk, .junk, .junk, .junk, .junk, .junk, .b ((decide (0 < a5_0)) && (!(decide ((y5_6.toNat : Int) = 10)))), .junk, .junk, .junk, .junk, .junk, .junk, .junk, .junk, .junk, .junk, .junk], []⟩ : St)) ?_ ?_
        · skip
          by_cases k6 : 0 < a5_0
          · skip
            have kk6 := k6
            try simp at kk6
            have b7 : 0 ≤ (IntKind.i64.wrap (a5_0 - 1)) ∧ (IntKind.i64.wrap (a5_0 - 1)) < (p0.length : Int) := by (first | omega | (simp only [IntKind.wrap_i64] at *; omega))
            have c7 : ((IntKind.i64.wrap (a5_0 - 1))).toNat < p0.length := by omega
            have hy5_6 : p0[((IntKind.i64.wrap (a5_0 - 1))).toNat] = y5_6 := by rw [← gy5_6, List.getD_eq_getElem?_getD, List.getElem?_eq_getElem c7]; rfl
            refine EV.regionG tabOK ?_ -- region 5
            simp (maxSteps := 2000000) -implicitDefEqProofs +contextual [k6, kk6, b7, c7, hy5_6]
            refine ⟨(), ?_⟩
            try dsimp only
            refine Sub.cutF 0 (by simp) ?_ ?_ <;> simp [List.range_succ, toIdx_range, passed, k6, kk6, b7, c7, hy5_6]
          · skip
            have kk6 := k6
            try simp at kk6
            refine EV.regionG tabOK ?_ -- region 5
            simp (maxSteps := 2000000) -implicitDefEqProofs +contextual [k6, kk6]
            refine ⟨(), ?_⟩
            try dsimp only
            refine Sub.cutF 0 (by simp) ?_ ?_ <;> simp [List.range_succ, toIdx_range, passed, k6, kk6]
        · skip
          rintro _
          simp only [thenK_normal, blockK_normal, scopeK_normal, bodyK_normal]
          refine EV.condT ?_
          simp -implicitDefEqProofs
          refine condT_intro (fun k8 => ?_) (fun k8 => ?_)
          · try simp at k8
            obtain ⟨f8, e5⟩ := pos_on2 e5 (by first | simpa using k8 | grind)
            try simp at f8
            refine EV.skip ?_
            simp only [thenK_normal, blockK_normal, scopeK_normal]
            refine EV.block ?_
            refine EV.regionG tabOK ?_ -- region 6
            simp (maxSteps := 2000000) -implicitDefEqProofs
            refine ⟨⟨(IntKind.i64.wrap (a5_0 - 1)), e5, by ((try dsimp only); first | omega | (simp only [IntKind.wrap_i64] at *; omega))⟩, by (dsimp only; simp only [IntKind.wrap_i64] at *; omega), ?_⟩
            try dsimp only
            refine Sub.cutF 0 (by simp) ?_ ?_ <;> simp [List.range_succ, toIdx_range, passed]
          · try simp at k8
            obtain ⟨f8, e5⟩ := neg_on2 e5 (by first | simpa using k8 | grind)
            try simp at f8
            refine EV.exit ?_
            simp -implicitDefEqProofs
            refine ⟨⟨(a5_0, ()), e5.symm, by ((try dsimp only); first | omega | (simp only [IntKind.wrap_i64] at *; omega))⟩, ?_⟩
            try dsimp only
            refine Sub.cutF 0 (by simp) ?_ ?_ <;> simp [List.range_succ, toIdx_range, passed]
    · skip
      rintro ⟨⟨v5, g5⟩, e5, p5⟩
      simp only [thenK_normal, blockK_normal, scopeK_normal, bodyK_normal]
      try dsimp only at p5
      replace e := bnd_on e e5
      try dsimp only at e
      refine EV.seq ?_
      refine EV.seq ?_
      refine EV.regionG tabOK ?_ -- region 7
      simp (maxSteps := 2000000) -implicitDefEqProofs
      refine EV.condT ?_
      simp -implicitDefEqProofs
      refine condT_intro (fun k9 => ?_) (fun k9 => ?_)
      · try simp at k9
        obtain ⟨f9, e⟩ := pos_on2 e (by first | simpa using k9 | grind)
        try simp at f9
        refine EV.seq ?_
        refine EV.regionG tabOK ?_ -- region 8
        simp (maxSteps := 2000000) -implicitDefEqProofs
        refine EV.ret ?_
        simp only [thenK_ret, blockK_ret, scopeK_ret, bodyK_ret]
        subst e
        refine Fin.pure0 ?_
        first | (simp; done) | (simp <;> grind)
      · try simp at k9
        obtain ⟨f9, e⟩ := neg_on2 e (by first | simpa using k9 | grind)
        try simp at f9
        refine EV.skip ?_
        simp only [thenK_normal, blockK_normal, scopeK_normal]
        refine EV.seq ?_
        have sb10 : 0 ≤ (IntKind.i64.wrap (v2 + 1)) ∧ (IntKind.i64.wrap (v2 + 1)) ≤ v5 ∧ v5 ≤ (p0.length : Int) := by (first | omega | (simp only [IntKind.wrap_i64] at *; omega))
        obtain ⟨s1_10, s2_10, s3_10⟩ := sb10
        have s5_10 : 0 ≤ v5 := by omega
        have s6_10 : (IntKind.i64.wrap (v2 + 1)) ≤ ((v5).toNat : Int) := by omega
        have s7_10 : ((IntKind.i64.wrap (v2 + 1))).toNat ≤ (v5).toNat := by omega
        have s8_10 : (IntKind.i64.wrap (v2 + 1)) ≤ max (v5) 0 := by omega
        refine EV.regionG tabOK ?_ -- region 9
        simp (maxSteps := 2000000) -implicitDefEqProofs [s1_10, s2_10, s3_10, s5_10, s6_10, s7_10, s8_10]
        refine EV.ret ?_
        simp only [thenK_ret, blockK_ret, scopeK_ret, bodyK_ret]
        subst e
        refine Fin.pure0 ?_
        first | (simp; done) | (simp <;> grind)

def lTabbed_l4 (p0 : List UInt8) : List UInt8 → Nat → (List UInt8) → Bool → (List UInt8)
  | [], _, a4_0, _ => a4_0
  | x4 :: xs4, j4, a4_0, a4_1 => (bnd (if a4_1 = true then (a4_0 ++ ([9] : List UInt8)) else a4_0) fun (v7 : (List UInt8)) => lTabbed_l4 p0 xs4 (j4 + 1) (v7 ++ ((p0.drop j4).take (((IntKind.i64.wrap ((j4 : Int) + 1))).toNat - j4))) (decide ((x4.toNat : Int) = 10)))
def lTabbed (p0 : List UInt8) : (List UInt8) :=
  (bnd (lTabbed_l4 p0 p0 0 ([] : List UInt8) true) fun (v4 : (List UInt8)) => v4)
set_option maxHeartbeats 40000000 in
theorem w_lTabbed (p0 : List UInt8) (hl : p0.length ≤ 100000000000000) : QC prog 18 [.s p0] [] (.s (lTabbed p0)) [] := by
  refine QC.of_body tabOK func18 rfl (by kernel_rfl) ?_
  simp only [f18]
  generalize e : lTabbed p0 = R
  unfold lTabbed at e
  refine EV.seq ?_
  refine EV.regionG tabOK ?_ -- region 0
  simp (maxSteps := 2000000) -implicitDefEqProofs
  refine EV.seq ?_
  refine EV.regionG tabOK ?_ -- region 1
  simp (maxSteps := 2000000) -implicitDefEqProofs
  refine EV.seq ?_
  refine EV.regionG tabOK ?_ -- region 2
  simp (maxSteps := 2000000) -implicitDefEqProofs
  refine EV.seq ?_
  refine EV.seq ?_
  refine EV.regionG tabOK ?_ -- region 3
  simp (maxSteps := 2000000) -implicitDefEqProofs
  obtain ⟨z4, e4, e⟩ := bnd_split e
  refine EV.nrm (fun v : { v : ((List UInt8)) × (Unit) // z4 = v.1 ∧ (fun (v4 : (List UInt8)) => v4.length ≤ 2 * p0.length) v.1 } => (fun (v4 : (List UInt8)) (g4 : Unit) => (⟨[.junk, .junk, .junk, .s v4, .junk, .junk, .junk, .junk, .junk, .junk, .junk, .junk, .junk, .junk, .junk, .junk, .junk, .junk, .junk, .junk, .junk, .junk, .junk, .junk, .junk, .junk, .junk], []⟩ : St)) v.1.1 v.1.2) ?_ ?_
  · skip
    refine EV.block ?_
    refine EV.loopB (fun x : { x : Nat × (List UInt8) × Bool // x.1 ≤ p0.length ∧ lTabbed_l4 p0 (p0.drop x.1) x.1 x.2.1 x.2.2 = z4 ∧ (fun (j4 : Nat) (a4_0 : List UInt8) (a4_1 : Bool) => a4_0.length ≤ 2 * j4) x.1 x.2.1 x.2.2 } => (fun (j4 : Nat) (a4_0 : List UInt8) (a4_1 : Bool) => (⟨[.s p0, .junk, .junk, .s a4_0, .b a4_1, .i .i64 (j4 : Int), .junk, .junk, .junk, .junk, .junk, .junk, .junk, .junk, .junk, .junk, .junk, .junk, .junk, .junk, .junk, .junk, .junk, .junk, .junk, .junk, .junk], []⟩ : St)) x.1.1 x.1.2.1 x.1.2.2) (fun x => p0.length - x.1.1) ⟨(0, ([] : List UInt8), true), Nat.zero_le _, e4, by ((try dsimp only); (try simp only [List.length_append, List.length_cons, List.length_nil, List.length_take, List.length_drop]); omega)⟩ ?_ ?_
    · skip
      try dsimp only
      try dsimp only
      refine Sub.cutF 0 (by simp) ?_ ?_ <;> simp [List.range_succ, toIdx_range, passed]
    · skip
      rintro ⟨⟨j4, a4_0, a4_1⟩, hi4, e4, q4⟩
      simp only at hi4 e4 ⊢
      try dsimp only at q4
      refine EV.seq ?_
      refine EV.seq ?_
      refine EV.regionG tabOK ?_ -- region 4
      simp (maxSteps := 2000000) -implicitDefEqProofs
      refine EV.condT ?_
      simp -implicitDefEqProofs
      refine condT_intro (fun k1 => ?_) (fun k1 => ?_)
      · try simp at k1
        have u1 : j4 < p0.length := by omega
        obtain ⟨x4, hx4⟩ : ∃ z, p0[j4] = z := ⟨_, rfl⟩
        have mx4 : x4 ∈ p0 := by rw [← hx4]; exact List.getElem_mem _
        have wz4 : IntKind.i64.wrap ((j4 : Int) + 1) = (j4 : Int) + 1 := wrap_in _ (by omega) (by omega)
        rw [List.drop_eq_getElem_cons u1, hx4, lTabbed_l4] at e4
        refine EV.skip ?_
        simp only [thenK_normal, blockK_normal, scopeK_normal]
        refine EV.seq ?_
        refine EV.block ?_
        refine EV.seq ?_
        refine EV.seq ?_
        refine EV.regionG tabOK ?_ -- region 6
        simp (maxSteps := 2000000) -implicitDefEqProofs [k1, u1, hx4]
        obtain ⟨z7, e7, e4⟩ := bnd_split e4
        refine EV.nrm (fun v : { v : ((List UInt8)) × (Unit) // z7 = v.1 ∧ (fun (v7 : (List UInt8)) => v7.length ≤ a4_0.length + 1) v.1 } => (fun (v7 : (List UInt8)) (g7 : Unit) => (⟨[.s p0, .junk, .junk, .s v7, .junk, .i .i64 (j4 : Int), .junk, .junk, .junk, .junk, .junk, .junk, .junk, .junk, .junk, .junk, .junk, .junk, .junk, .junk, .junk, .junk, .junk, .junk, .junk, .junk, .junk], []⟩ : St)) v.1.1 v.1.2) ?_ ?_
        · skip
          refine EV.condT ?_
          simp -implicitDefEqProofs [k1, u1, hx4]
          refine condT_intro (fun k2 => ?_) (fun k2 => ?_)
          · try simp at k2
            obtain ⟨f2, e7⟩ := pos_on2 e7 (by first | simpa using k2 | grind)
            try simp at f2
            have ct3 : (a4_0).length + (([9] : List UInt8)).length ≤ 9223372036854775807 := by ((try simp only [List.length_append, List.length_cons, List.length_nil, List.length_take, List.length_drop]); omega)
            try simp at ct3
            refine EV.regionG tabOK ?_ -- region 7
            simp (maxSteps := 2000000) -implicitDefEqProofs [k1, u1, hx4, ct3]
            refine ⟨⟨((a4_0 ++ ([9] : List UInt8)), ()), e7.symm, by ((try dsimp only); (try simp only [List.drop_zero, List.length_append, List.length_cons, List.length_nil]); omega)⟩, ?_⟩
            try dsimp only
            refine Sub.cutF 0 (by simp) ?_ ?_ <;> simp [List.range_succ, toIdx_range, passed, k1, u1, hx4, ct3]
          · try simp at k2
            obtain ⟨f2, e7⟩ := neg_on2 e7 (by first | simpa using k2 | grind)
            try simp at f2
            refine EV.skip ?_
            simp only [thenK_normal, blockK_normal, scopeK_normal]
            refine ⟨⟨(a4_0, ()), e7.symm, by ((try dsimp only); (try simp only [List.drop_zero, List.length_append, List.length_cons, List.length_nil]); omega)⟩, ?_⟩
            try dsimp only
            refine Sub.cutF 0 (by simp) ?_ ?_ <;> simp [List.range_succ, toIdx_range, passed, k1, u1, hx4]
        · skip
          rintro ⟨⟨v7, g7⟩, e7, p7⟩
          simp only [thenK_normal, blockK_normal, scopeK_normal, bodyK_normal]
          try dsimp only at p7
          replace e4 := bnd_on e4 e7
          try dsimp only at e4
          refine EV.seq ?_
          have sb4 : 0 ≤ (j4 : Int) ∧ (j4 : Int) ≤ (IntKind.i64.wrap ((j4 : Int) + 1)) ∧ (IntKind.i64.wrap ((j4 : Int) + 1)) ≤ (p0.length : Int) := by omega
          obtain ⟨s1_4, s2_4, s3_4⟩ := sb4
          have s5_4 : 0 ≤ (IntKind.i64.wrap ((j4 : Int) + 1)) := by omega
          have s6_4 : (j4 : Int) ≤ (((IntKind.i64.wrap ((j4 : Int) + 1))).toNat : Int) := by omega
          have s7_4 : ((j4 : Int)).toNat ≤ ((IntKind.i64.wrap ((j4 : Int) + 1))).toNat := by omega
          have s8_4 : (j4 : Int) ≤ max ((IntKind.i64.wrap ((j4 : Int) + 1))) 0 := by omega
          have ct5 : (v7).length + (((p0.drop j4).take (((IntKind.i64.wrap ((j4 : Int) + 1))).toNat - j4))).length ≤ 9223372036854775807 := by ((try simp only [List.length_append, List.length_cons, List.length_nil, List.length_take, List.length_drop]); omega)
          try simp at ct5
          refine EV.regionG tabOK ?_ -- region 8
          simp (maxSteps := 2000000) -implicitDefEqProofs [k1, u1, hx4, s1_4, s2_4, s3_4, s5_4, s6_4, s7_4, s8_4, ct5]
          refine EV.regionG tabOK ?_ -- region 9
          simp (maxSteps := 2000000) -implicitDefEqProofs [k1, u1, hx4, s1_4, s2_4, s3_4, s5_4, s6_4, s7_4, s8_4, ct5]
          refine EV.regionG tabOK ?_ -- region 5
          simp (maxSteps := 2000000) -implicitDefEqProofs [k1, u1, hx4, s1_4, s2_4, s3_4, s5_4, s6_4, s7_4, s8_4, ct5]
          have w4 : IntKind.i64.wrap ((j4 : Int) + 1) = (j4 : Int) + 1 := wrap_in _ (by omega) (by omega)
          refine ⟨⟨(j4 + 1, (v7 ++ ((p0.drop j4).take (((IntKind.i64.wrap ((j4 : Int) + 1))).toNat - j4))), (decide ((x4.toNat : Int) = 10))), by omega, e4, by ((try dsimp only); (try simp only [List.length_append, List.length_cons, List.length_nil, List.length_take, List.length_drop]); omega)⟩, by dsimp only; omega, ?_⟩
          try dsimp only
          refine Sub.cutF 0 (by simp) ?_ ?_ <;> simp [List.range_succ, toIdx_range, passed, k1, u1, hx4, ct5, w4]
      · try simp at k1
        have d1 : p0.drop j4 = [] := List.drop_eq_nil_of_le (by omega)
        rw [d1, lTabbed_l4] at e4
        refine EV.exit ?_
        simp -implicitDefEqProofs
        refine ⟨⟨(a4_0, ()), e4.symm, by ((try dsimp only); (try simp only [List.drop_zero, List.length_append, List.length_cons, List.length_nil]); omega)⟩, ?_⟩
        try dsimp only
        refine Sub.cutF 0 (by simp) ?_ ?_ <;> simp [List.range_succ, toIdx_range, passed]
  · skip
    rintro ⟨⟨v4, g4⟩, e4, p4⟩
    simp only [thenK_normal, blockK_normal, scopeK_normal, bodyK_normal]
    try dsimp only at p4
    replace e := bnd_on e e4
    try dsimp only at e
    refine EV.seq ?_
    refine EV.regionG tabOK ?_ -- region 10
    simp (maxSteps := 2000000) -implicitDefEqProofs
    refine EV.ret ?_
    simp only [thenK_ret, blockK_ret, scopeK_ret, bodyK_ret]
    subst e
    refine Fin.pure0 ?_
    first | (simp; done) | (simp <;> grind)
abbrev nestF (l : List StmtD) : SourceD := SourceD.mk ([]) ([]) ([(FnD.mk ([102] : List UInt8) ([]) l 0)] : List FnD)
abbrev nestW (l : List StmtD) : StmtD := StmtD.mk 3 0 ([] : List UInt8) (TyD.mk 0 ([] : List UInt8) ([])) (PlaceD.mk ([] : List UInt8) ([])) (RvD.mk 0 ([]) (PlaceD.mk ([] : List UInt8) ([])) ([] : List UInt8) ([] : List UInt8)) (OperD.mk true 1 (PlaceD.mk ([] : List UInt8) ([]))) l ([]) ([])
abbrev nestG (l : List StmtD) : SourceD := SourceD.mk ([]) ([]) ([(FnD.mk ([102] : List UInt8) ([]) ([nestW l] : List StmtD) 0)] : List FnD)
theorem nest_fw (l : List StmtD) (h : wfR (l.map stmtC)) : wfL (sourceC (nestF l)) := by
  simp only [sourceC_eq, fnC_eq, wfL, wfV, wfR, List.map_cons, List.map_nil]
  exact ⟨trivial, trivial, ⟨⟨trivial, trivial, h, by decide, trivial⟩, trivial⟩, trivial⟩
theorem nest_gw (l : List StmtD) (h : wfR (l.map stmtC)) : wfL (sourceC (nestG l)) := by
  simp only [sourceC_eq, fnC_eq, stmtC_eq, wfL, wfV, wfR, List.map_cons, List.map_nil]
  refine ⟨trivial, trivial, ⟨⟨trivial, trivial, ⟨?_, trivial⟩, by decide, trivial⟩, trivial⟩, trivial⟩
  exact ⟨by decide, by decide, trivial, by decide, trivial, trivial, trivial, trivial, by decide, trivial, trivial, trivial, trivial, trivial, trivial, by decide, trivial, trivial, h, trivial, trivial, trivial⟩
theorem nest_fz (l : List StmtD) (h : bkR (l.map stmtC) ≤ 1048576) : bkL (sourceC (nestF l)) ≤ 1050000 := by
  simp only [sourceC_eq, fnC_eq, bkL, bkV, bkR, List.map_cons, List.map_nil, List.length_cons, List.length_nil]
  omega
theorem nest_gz (l : List StmtD) (h : bkR (l.map stmtC) ≤ 1048576) : bkL (sourceC (nestG l)) ≤ 1050000 := by
  simp only [sourceC_eq, fnC_eq, stmtC_eq, bkL, bkV, bkR, List.map_cons, List.map_nil, List.length_cons, List.length_nil, ← Nat.add_assoc]
  omega
theorem lBody_len (p : List UInt8) : (lBody p).length ≤ p.length := by
  unfold lBody
  simp only [bnd]
  split
  · simp
  · simp only [List.length_take, List.length_drop]; omega
theorem lTab_len (p : List UInt8) (h : p.length ≤ 50000000000000) : ∀ (l : List UInt8) (j : Nat) (a : List UInt8) (b : Bool), j + l.length ≤ p.length → (lTabbed_l4 p l j a b).length ≤ a.length + 2 * l.length
  | [], j, a, b, _ => by simp [lTabbed_l4]
  | x :: l, j, a, b, hj => by
    simp only [List.length_cons] at hj
    have hw : IntKind.i64.wrap ((j : Int) + 1) = (j : Int) + 1 := wrap_in _ (by omega) (by omega)
    simp only [lTabbed_l4, bnd]
    refine Nat.le_trans (lTab_len p h l (j + 1) _ _ (by omega)) ?_
    rw [hw]
    cases b <;> simp only [List.length_append, List.length_take, List.length_drop, List.length_cons, List.length_nil] <;> simp <;> omega
theorem lTabbed_len (p : List UInt8) (h : p.length ≤ 50000000000000) : (lTabbed p).length ≤ 2 * p.length := by
  unfold lTabbed
  simp only [bnd]
  have := lTab_len p h p 0 [] true (by omega)
  simpa using this

def lTreeNest (p0 : List StmtD) : Bool :=
  (if ((zLarge (SourceD.mk ([]) ([]) ([(FnD.mk ([102] : List UInt8) ([]) p0 0)] : List FnD)) 400) = true) ∨ (¬ ((tValid05 (SourceD.mk ([]) ([]) ([(FnD.mk ([102] : List UInt8) ([]) p0 0)] : List FnD))) = true)) then true else (decide ((lBody (textS (SourceD.mk ([]) ([]) ([(FnD.mk ([102] : List UInt8) ([]) ([(StmtD.mk 3 0 ([] : List UInt8) (TyD.mk 0 ([] : List UInt8) ([])) (PlaceD.mk ([] : List UInt8) ([])) (RvD.mk 0 ([]) (PlaceD.mk ([] : List UInt8) ([])) ([] : List UInt8) ([] : List UInt8)) (OperD.mk true 1 (PlaceD.mk ([] : List UInt8) ([]))) p0 ([]) ([]))] : List StmtD) 0)] : List FnD)))) = ((([9, 119, 104, 105, 108, 101, 32, 49, 32, 123, 10] : List UInt8) ++ (lTabbed (lBody (textS (SourceD.mk ([]) ([]) ([(FnD.mk ([102] : List UInt8) ([]) p0 0)] : List FnD)))))) ++ ([9, 125, 10] : List UInt8)))))
set_option maxHeartbeats 40000000 in
theorem w_lTreeNest (p0 : List StmtD) (hw : wfR (p0.map stmtC)) (hz : bkR (p0.map stmtC) ≤ 1048576) : QC prog 6 [.ro 21 (p0.map stmtC)] [] (.b (lTreeNest p0)) [] := by
  refine QC.of_body tabOK func6 rfl (by kernel_rfl) ?_
  simp only [f6]
  generalize e : lTreeNest p0 = R
  unfold lTreeNest at e
  refine EV.seq ?_
  refine EV.regionG tabOK ?_ -- region 0
  simp (maxSteps := 2000000) -implicitDefEqProofs
  refine EV.seq ?_
  refine EV.regionG tabOK ?_ -- region 1
  simp (maxSteps := 2000000) -implicitDefEqProofs
  refine callG_fun (w_works05) ?_ ?_
  · simp
  simp (maxSteps := 2000000) -implicitDefEqProofs
  refine EV.seq ?_
  refine EV.seq ?_
  refine EV.regionG tabOK ?_ -- region 2
  simp (maxSteps := 2000000) -implicitDefEqProofs
  refine EV.condT ?_
  simp -implicitDefEqProofs
  refine EV.skip ?_
  simp only [thenK_normal, blockK_normal, scopeK_normal]
  refine EV.seq ?_
  refine EV.regionG tabOK ?_ -- region 4
  simp (maxSteps := 2000000) -implicitDefEqProofs
  refine EV.seq ?_
  refine EV.regionG tabOK ?_ -- region 5
  simp (maxSteps := 2000000) -implicitDefEqProofs
  refine callG_data [0] (w_zLarge (SourceD.mk ([]) ([]) ([(FnD.mk ([102] : List UInt8) ([]) p0 0)] : List FnD)) 400) ?_ ?_ ?_
  · simp [allP, allR, c0, ld1, ld0, cvOb, Pu, take_len_map, List.getD, List.range_succ]
  · first | trivial | simp [nr, nr1, nr0]
  simp (maxSteps := 2000000) -implicitDefEqProofs
  refine EV.seq ?_
  refine EV.seq ?_
  refine EV.nrm (fun _ : Unit => (⟨[.ro 21 (p0.map stmtC), .junk, .junk, .b true, .ptr 1 0 0 0, .junk, .junk, .junk, .junk, .junk, .junk, .junk, .junk, .junk, .junk, .junk, .junk, .junk, .junk, .junk, .junk, .b ((zLarge (SourceD.mk ([]) ([]) ([(FnD.mk ([102] : List UInt8) ([]) p0 0)] : List FnD)) 400) || (!(tValid05 (SourceD.mk ([]) ([]) ([(FnD.mk ([102] : List UInt8) ([]) p0 0)] : List FnD))))), .junk, .junk, .junk, .junk, .junk, .junk, .junk, .junk, .junk, .junk, .junk, .junk, .junk, .junk, .junk, .junk, .junk, .junk, .junk, .junk, .junk], [.arr 0 4 [[.s ([102] : List UInt8), .c (.slice none 0 0), .ro 21 (p0.map stmtC), .i .i64 0]], .arr 0 3 [[.c (.slice none 0 0), .c (.slice none 0 0), .sl 0 0 0 1]]]⟩ : St)) ?_ ?_
  · skip
    cases k2 : (zLarge (SourceD.mk ([]) ([]) ([(FnD.mk ([102] : List UInt8) ([]) p0 0)] : List FnD)) 400)
    · skip
      have kk2 := k2
      try simp at kk2
      refine EV.regionG tabOK ?_ -- region 6
      simp (maxSteps := 2000000) -implicitDefEqProofs +contextual [k2, kk2]
      refine callG_data [0] (w_tValid05 (SourceD.mk ([]) ([]) ([(FnD.mk ([102] : List UInt8) ([]) p0 0)] : List FnD))) ?_ ?_ ?_
      · simp [allP, allR, c0, ld1, ld0, cvOb, Pu, take_len_map, List.getD, List.range_succ]
      · first | trivial | simp [nr, nr1, nr0]
      simp (maxSteps := 2000000) -implicitDefEqProofs +contextual [k2, kk2]
      refine ⟨(), ?_⟩
      try dsimp only
      refine Sub.cutF 2 (by simp) ?_ ?_ <;> simp [List.range_succ, toIdx_range, passed, k2, kk2]
    · skip
      have kk2 := k2
      try simp at kk2
      refine EV.regionG tabOK ?_ -- region 6
      simp (maxSteps := 2000000) -implicitDefEqProofs +contextual [k2, kk2]
      refine ⟨(), ?_⟩
      try dsimp only
      refine Sub.cutF 2 (by simp) ?_ ?_ <;> simp [List.range_succ, toIdx_range, passed, k2, kk2]
  · skip
    rintro _
    simp only [thenK_normal, blockK_normal, scopeK_normal, bodyK_normal]
    refine EV.condT ?_
    simp -implicitDefEqProofs
    refine condT_intro (fun k3 => ?_) (fun k3 => ?_)
    · try simp at k3
      obtain ⟨f3, e⟩ := pos_on2 e (by first | simpa using k3 | grind)
      try simp at f3
      refine EV.seq ?_
      refine EV.regionG tabOK ?_ -- region 7
      simp (maxSteps := 2000000) -implicitDefEqProofs
      refine EV.ret ?_
      simp only [thenK_ret, blockK_ret, scopeK_ret, bodyK_ret]
      subst e
      refine Fin.pure0 ?_
      first | (simp; done) | (simp <;> grind)
    · try simp at k3
      obtain ⟨f3, e⟩ := neg_on2 e (by first | simpa using k3 | grind)
      try simp at f3
      refine EV.skip ?_
      simp only [thenK_normal, blockK_normal, scopeK_normal]
      refine EV.seq ?_
      refine EV.regionG tabOK ?_ -- region 8
      simp (maxSteps := 2000000) -implicitDefEqProofs
      refine EV.seq ?_
      refine EV.sub (σ' := ⟨[.junk, .junk, .junk, .b true, .ptr 1 0 0 0, .junk, .ptr 3 0 0 0, .junk, .junk, .junk, .junk, .junk, .junk, .junk, .junk, .junk, .junk, .junk, .junk, .junk, .junk, .junk, .junk, .junk, .junk, .junk, .junk, .junk, .junk, .junk, .junk, .junk, .junk, .junk, .junk, .junk, .junk, .junk, .junk, .junk, .junk, .junk, .junk], [.arr 0 4 [[.s ([102] : List UInt8), .c (.slice none 0 0), .ro 21 (p0.map stmtC), .i .i64 0]], .arr 0 3 [[.c (.slice none 0 0), .c (.slice none 0 0), .sl 0 0 0 1]], .arr 0 4 [[.s ([102] : List UInt8), .c (.slice none 0 0), .sl 4 0 0 1, .i .i64 0]], .arr 0 3 [[.c (.slice none 0 0), .c (.slice none 0 0), .sl 2 0 0 1]], .arr 0 21 [[.i .i64 3, .i .i64 0, .s ([] : List UInt8), .i .i64 0, .s ([] : List UInt8), .c (.slice none 0 0), .s ([] : List UInt8), .c (.slice none 0 0), .i .i64 0, .c (.slice none 0 0), .s ([] : List UInt8), .c (.slice none 0 0), .s ([] : List UInt8), .s ([] : List UInt8), .b true, .i .i64 1, .s ([] : List UInt8), .c (.slice none 0 0), .ro 21 (p0.map stmtC), .c (.slice none 0 0), .c (.slice none 0 0)]]]⟩) ?_ ?_
      · refine Sub.cutS [0, 1, 3, 4, 2] (by decide) (by simp) ?_ ?_
        · simp [allP, slotSel, toIdx]
        · simp [passed, toIdx]
      refine EV.sub (σ' := ⟨[.junk, .junk, .junk, .b true, .ptr 1 0 0 0, .junk, .ptr 3 0 0 0, .junk, .junk, .junk, .junk, .junk, .junk, .junk, .junk, .junk, .junk, .junk, .junk, .junk, .junk, .junk, .junk, .junk, .junk, .junk, .junk, .junk, .junk, .junk, .junk, .junk, .junk, .junk, .junk, .junk, .junk, .junk, .junk, .junk, .junk, .junk, .junk], [.arr 0 4 [[.s ([102] : List UInt8), .c (.slice none 0 0), .ro 21 (p0.map stmtC), .i .i64 0]], .arr 0 3 [[.c (.slice none 0 0), .c (.slice none 0 0), .sl 0 0 0 1]], .arr 0 4 [[.s ([102] : List UInt8), .c (.slice none 0 0), .ro 21 (([(StmtD.mk 3 0 ([] : List UInt8) (TyD.mk 0 ([] : List UInt8) ([])) (PlaceD.mk ([] : List UInt8) ([])) (RvD.mk 0 ([]) (PlaceD.mk ([] : List UInt8) ([])) ([] : List UInt8) ([] : List UInt8)) (OperD.mk true 1 (PlaceD.mk ([] : List UInt8) ([]))) p0 ([]) ([]))] : List StmtD).map stmtC), .i .i64 0]], .arr 0 3 [[.c (.slice none 0 0), .c (.slice none 0 0), .sl 2 0 0 1]]]⟩) ?_ ?_
      · skip
        try dsimp only
        refine Sub.cutP (cs' := [.s ([102] : List UInt8), .c (.slice none 0 0), .ro 21 (([(StmtD.mk 3 0 ([] : List UInt8) (TyD.mk 0 ([] : List UInt8) ([])) (PlaceD.mk ([] : List UInt8) ([])) (RvD.mk 0 ([]) (PlaceD.mk ([] : List UInt8) ([])) ([] : List UInt8) ([] : List UInt8)) (OperD.mk true 1 (PlaceD.mk ([] : List UInt8) ([]))) p0 ([]) ([]))] : List StmtD).map stmtC), .i .i64 0]) 4 (by simp) 2 (by decide) rfl ?_ ?_ ?_ <;> simp [setOb, allP, allR, c0, slotR, conv1, conv0, cvOb, Pu, take_len_map, List.getD, List.range_succ, toIdx_range, passed]
      have := textS_le (SourceD.mk ([]) ([]) ([(FnD.mk ([102] : List UInt8) ([]) ([(StmtD.mk 3 0 ([] : List UInt8) (TyD.mk 0 ([] : List UInt8) ([])) (PlaceD.mk ([] : List UInt8) ([])) (RvD.mk 0 ([]) (PlaceD.mk ([] : List UInt8) ([])) ([] : List UInt8) ([] : List UInt8)) (OperD.mk true 1 (PlaceD.mk ([] : List UInt8) ([]))) p0 ([]) ([]))] : List StmtD) 0)] : List FnD)) (nest_gz p0 hz)
      have := lBody_len (textS (SourceD.mk ([]) ([]) ([(FnD.mk ([102] : List UInt8) ([]) ([(StmtD.mk 3 0 ([] : List UInt8) (TyD.mk 0 ([] : List UInt8) ([])) (PlaceD.mk ([] : List UInt8) ([])) (RvD.mk 0 ([]) (PlaceD.mk ([] : List UInt8) ([])) ([] : List UInt8) ([] : List UInt8)) (OperD.mk true 1 (PlaceD.mk ([] : List UInt8) ([]))) p0 ([]) ([]))] : List StmtD) 0)] : List FnD)))
      have := textS_le (SourceD.mk ([]) ([]) ([(FnD.mk ([102] : List UInt8) ([]) p0 0)] : List FnD)) (nest_fz p0 hz)
      have := lBody_len (textS (SourceD.mk ([]) ([]) ([(FnD.mk ([102] : List UInt8) ([]) p0 0)] : List FnD)))
      have := lTabbed_len (lBody (textS (SourceD.mk ([]) ([]) ([(FnD.mk ([102] : List UInt8) ([]) p0 0)] : List FnD)))) (by omega)
      have ct4 : (([9, 119, 104, 105, 108, 101, 32, 49, 32, 123, 10] : List UInt8)).length + ((lTabbed (lBody (textS (SourceD.mk ([]) ([]) ([(FnD.mk ([102] : List UInt8) ([]) p0 0)] : List FnD)))))).length ≤ 9223372036854775807 := by ((try dsimp only); (try simp only [List.drop_zero, List.length_append, List.length_cons, List.length_nil]); omega)
      try simp at ct4
      have ct5 : ((([9, 119, 104, 105, 108, 101, 32, 49, 32, 123, 10] : List UInt8) ++ (lTabbed (lBody (textS (SourceD.mk ([]) ([]) ([(FnD.mk ([102] : List UInt8) ([]) p0 0)] : List FnD))))))).length + (([9, 125, 10] : List UInt8)).length ≤ 9223372036854775807 := by ((try dsimp only); (try simp only [List.drop_zero, List.length_append, List.length_cons, List.length_nil]); omega)
      try simp at ct5
      refine EV.drawG tabOK mixedOK ?_ -- region 9
      simp (maxSteps := 2000000) -implicitDefEqProofs +contextual [ct4, ct5]
      refine callG_data [2] (w_tText (SourceD.mk ([]) ([]) ([(FnD.mk ([102] : List UInt8) ([]) ([(StmtD.mk 3 0 ([] : List UInt8) (TyD.mk 0 ([] : List UInt8) ([])) (PlaceD.mk ([] : List UInt8) ([])) (RvD.mk 0 ([]) (PlaceD.mk ([] : List UInt8) ([])) ([] : List UInt8) ([] : List UInt8)) (OperD.mk true 1 (PlaceD.mk ([] : List UInt8) ([]))) p0 ([]) ([]))] : List StmtD) 0)] : List FnD)) (nest_gw p0 hw) (nest_gz p0 hz)) ?_ ?_ ?_
      · simp [allP, allR, c0, ld1, ld0, cvOb, Pu, take_len_map, List.getD, List.range_succ]
      · first | trivial | simp [nr, nr1, nr0]
      simp (maxSteps := 2000000) -implicitDefEqProofs +contextual [ct4, ct5]
      refine callG_fun (w_lBody (textS (SourceD.mk ([]) ([]) ([(FnD.mk ([102] : List UInt8) ([]) ([(StmtD.mk 3 0 ([] : List UInt8) (TyD.mk 0 ([] : List UInt8) ([])) (PlaceD.mk ([] : List UInt8) ([])) (RvD.mk 0 ([]) (PlaceD.mk ([] : List UInt8) ([])) ([] : List UInt8) ([] : List UInt8)) (OperD.mk true 1 (PlaceD.mk ([] : List UInt8) ([]))) p0 ([]) ([]))] : List StmtD) 0)] : List FnD))) (by first | omega | (simp; omega))) ?_ ?_
      · first | (simp; done) | (simp [ct4, ct5]; done)
      simp (maxSteps := 2000000) -implicitDefEqProofs +contextual [ct4, ct5]
      refine callG_data [0] (w_tText (SourceD.mk ([]) ([]) ([(FnD.mk ([102] : List UInt8) ([]) p0 0)] : List FnD)) (nest_fw p0 hw) (nest_fz p0 hz)) ?_ ?_ ?_
      · simp [allP, allR, c0, ld1, ld0, cvOb, Pu, take_len_map, List.getD, List.range_succ]
      · first | trivial | simp [nr, nr1, nr0]
      simp (maxSteps := 2000000) -implicitDefEqProofs +contextual [ct4, ct5]
      refine callG_fun (w_lBody (textS (SourceD.mk ([]) ([]) ([(FnD.mk ([102] : List UInt8) ([]) p0 0)] : List FnD))) (by first | omega | (simp; omega))) ?_ ?_
      · first | (simp; done) | (simp [ct4, ct5]; done)
      simp (maxSteps := 2000000) -implicitDefEqProofs +contextual [ct4, ct5]
      refine callG_fun (w_lTabbed (lBody (textS (SourceD.mk ([]) ([]) ([(FnD.mk ([102] : List UInt8) ([]) p0 0)] : List FnD)))) (by first | omega | (simp; omega))) ?_ ?_
      · first | (simp; done) | (simp [ct4, ct5]; done)
      simp (maxSteps := 2000000) -implicitDefEqProofs +contextual [ct4, ct5]
      refine And.intro ?_ ?_
      · first | decide +kernel | (simp -implicitDefEqProofs; decide +kernel) | (split <;> decide +kernel)
      try simp -implicitDefEqProofs
      refine EV.ret ?_
      simp only [thenK_ret, blockK_ret, scopeK_ret, bodyK_ret]
      subst e
      refine Fin.pure0 ?_
      first | (simp; done) | (simp <;> grind)
end
end Go.Proofs.Tryz
end
section
namespace Go.Proofs.Tryz
open Go Go.AM
set_option linter.unusedVariables false
noncomputable section

def tabF : List UInt8 → Bool → List UInt8
  | [], _ => []
  | x :: r, b => (if b then [9] else []) ++ x :: tabF r (decide ((x.toNat : Int) = 10))
theorem l4_tab (p : List UInt8) (hp : p.length ≤ 50000000000000) : ∀ (l : List UInt8) (j : Nat) (a : List UInt8) (b : Bool), p.drop j = l → lTabbed_l4 p l j a b = a ++ tabF l b
  | [], j, a, b, _ => by simp [lTabbed_l4, tabF]
  | x :: r, j, a, b, h => by
    have hj : j < p.length := by
      rcases Nat.lt_or_ge j p.length with h' | h'
      · exact h'
      · rw [List.drop_eq_nil_of_le h'] at h; cases h
    have hn : p.drop (j + 1) = r := by rw [← List.drop_drop, h]; rfl
    have ho : (p.drop j).take ((IntKind.i64.wrap ((j : Int) + 1)).toNat - j) = [x] := by
      rw [wrap_in ((j : Int) + 1) (by omega) (by omega), show ((j : Int) + 1).toNat - j = 1 by omega, h]
      rfl
    simp only [lTabbed_l4, bnd]
    rw [ho, l4_tab p hp r (j + 1) _ _ hn]
    cases b <;> simp [tabF]
theorem lTabbed_eq (p : List UInt8) (hp : p.length ≤ 50000000000000) : lTabbed p = tabF p true := by
  unfold lTabbed
  simp only [bnd]
  rw [l4_tab p hp p 0 [] true rfl]
  rfl
theorem tab_rest : ∀ (a r : List UInt8), (∀ x ∈ a, x ≠ 10) → tabF (a ++ 10 :: r) false = a ++ 10 :: tabF r true
  | [], r, _ => by simp [tabF]
  | x :: a, r, h => by
    have hx : x ≠ 10 := h x List.mem_cons_self
    have hx2 : ¬ ((x.toNat : Int) = 10) := fun hq => hx (by
      have : x.toNat = 10 := by omega
      exact UInt8.toNat_inj.1 (by simpa using this))
    have := tab_rest a r fun y hy => h y (List.mem_cons_of_mem _ hy)
    simp only [List.cons_append, tabF, decide_eq_false hx2, this]
    rfl
theorem tab_line (a r : List UInt8) (h : ∀ x ∈ a, x ≠ 10) : tabF (a ++ 10 :: r) true = 9 :: a ++ 10 :: tabF r true := by
  cases a with
  | nil => simp [tabF]
  | cons x a =>
    have hx : x ≠ 10 := h x List.mem_cons_self
    have hx2 : ¬ ((x.toNat : Int) = 10) := fun hq => hx (by
      have : x.toNat = 10 := by omega
      exact UInt8.toNat_inj.1 (by simpa using this))
    have := tab_rest a r fun y hy => h y (List.mem_cons_of_mem _ hy)
    simp only [List.cons_append, tabF, decide_eq_false hx2, this]
    rfl
theorem tab_lineT (n : Nat) (xs : List (List UInt8)) (r : List UInt8) (h : ∀ w ∈ xs, ∀ x ∈ w, x ≠ 10) : tabF (lineT n xs ++ r) true = lineT (n + 1) xs ++ tabF r true := by
  have h1 : ∀ x ∈ tabsT n ++ xs.flatten, x ≠ 10 := by
    intro x hx
    rcases List.mem_append.1 hx with hx | hx
    · have := List.eq_of_mem_replicate hx
      rw [this]; decide
    · obtain ⟨w, hw, hx⟩ := List.mem_flatten.1 hx
      exact h w hw x hx
  have h2 := tab_line (tabsT n ++ xs.flatten) r h1
  have h3 : tabsT (n + 1) = 9 :: tabsT n := by simp [tabsT, List.replicate_succ]
  simp only [lineT, h3, List.append_assoc, List.cons_append, List.nil_append] at h2 ⊢
  exact h2
end
end Go.Proofs.Tryz
end
section
namespace Go.Proofs.Tryz
open Go Go.AM
set_option linter.unusedVariables false

theorem body_first (p : List UInt8) (hp : p.length ≤ 1000000000000000) : ∀ (m k : Nat) (a r : List UInt8), a.length - k ≤ m → k ≤ a.length → p = a ++ 10 :: r → (∀ x ∈ a, x ≠ 10) → lBody_l2 p (k : Int) = (a.length : Int) := by
  intro m
  induction m with
  | zero =>
    intro k a r hm hk he hn
    obtain rfl : k = a.length := by omega
    rw [lBody_l2]
    have h1 : p.getD ((a.length : Int)).toNat 0 = 10 := by subst he; simp
    simp only [bnd, h1]
    rw [if_neg (by simp)]
  | succ m ih =>
    intro k a r hm hk he hn
    by_cases hka : k = a.length
    · exact ih k a r (by omega) hk he hn
    have hlt : k < a.length := by omega
    have hlen : p.length = a.length + (r.length + 1) := by rw [he]; simp
    rw [lBody_l2]
    have h1 : p.getD ((k : Int)).toNat 0 = a[k] := by
      subst he
      rw [List.getD_eq_getElem?_getD, Int.toNat_natCast, List.getElem?_append_left hlt, List.getElem?_eq_getElem hlt]
      rfl
    have h2 : ¬ ((a[k].toNat : Int) = 10) := fun hq => hn _ (List.getElem_mem hlt) (by
      have : a[k].toNat = 10 := by omega
      exact UInt8.toNat_inj.1 (by simpa using this))
    simp only [bnd, h1]
    rw [if_pos ⟨by omega, h2⟩, wrap_in ((k : Int) + 1) (by omega) (by omega), dif_pos (by omega)]
    have := ih (k + 1) a r (by omega) (by omega) he hn
    rw [Int.natCast_add] at this
    exact this

theorem body_last (a : List UInt8) (hp : a.length ≤ 100000000000000) (b : List UInt8) (hb : ∃ c, a = c ++ [10]) (hd : b = [125, 10]) : lBody_l5 (a ++ b) (IntKind.i64.wrap (((a ++ b).length : Int) - 1)) = (a.length : Int) := by
  obtain ⟨c, rfl⟩ := hb
  subst hd
  have hl : ((c ++ [10] ++ [125, 10] : List UInt8).length : Int) = (c.length : Int) + 3 := by simp
  have hl2 : ((c ++ [10] : List UInt8).length : Int) = (c.length : Int) + 1 := by simp
  simp only [List.length_append, List.length_cons, List.length_nil] at hp
  rw [hl, hl2, wrap_in ((c.length : Int) + 3 - 1) (by omega) (by omega)]
  rw [lBody_l5, wrap_in ((c.length : Int) + 3 - 1 - 1) (by omega) (by omega)]
  have h1 : (c ++ [10] ++ [125, 10] : List UInt8).getD (((c.length : Int) + 3 - 1 - 1)).toNat 0 = 125 := by
    rw [show ((c.length : Int) + 3 - 1 - 1).toNat = c.length + 1 by omega]
    simp [List.getD_eq_getElem?_getD]
  simp only [bnd, h1]
  rw [if_pos ⟨by omega, by decide⟩, dif_pos (by omega)]
  rw [lBody_l5, wrap_in ((c.length : Int) + 3 - 1 - 1 - 1) (by omega) (by omega)]
  have h2 : (c ++ [10] ++ [125, 10] : List UInt8).getD (((c.length : Int) + 3 - 1 - 1 - 1)).toNat 0 = 10 := by
    rw [show ((c.length : Int) + 3 - 1 - 1 - 1).toNat = c.length by omega]
    simp [List.getD_eq_getElem?_getD]
  simp only [bnd, h2]
  rw [if_neg (by simp)]
  omega

theorem lBody_mid (L B : List UInt8) (hL : ∀ x ∈ L, x ≠ 10) (hB : B = [] ∨ ∃ c, B = c ++ [10]) (hp : L.length + B.length ≤ 50000000000000) : lBody (L ++ 10 :: (B ++ [125, 10])) = B := by
  have he : L ++ 10 :: (B ++ [125, 10]) = (L ++ 10 :: B) ++ [125, 10] := by simp
  have hlen : (L ++ 10 :: (B ++ [125, 10]) : List UInt8).length = L.length + B.length + 3 := by simp; omega
  have h1 : lBody_l2 (L ++ 10 :: (B ++ [125, 10])) 0 = (L.length : Int) := body_first _ (by omega) L.length 0 L _ (by omega) (by omega) rfl hL
  have h2 : lBody_l5 (L ++ 10 :: (B ++ [125, 10])) (IntKind.i64.wrap (((L ++ 10 :: (B ++ [125, 10]) : List UInt8).length : Int) - 1)) = (L.length : Int) + 1 + (B.length : Int) := by
    rw [he, body_last (L ++ 10 :: B) (by simp; omega) _ ?_ rfl]
    · simp; omega
    · rcases hB with rfl | ⟨c, rfl⟩
      · exact ⟨L, by simp⟩
      · exact ⟨L ++ 10 :: c, by simp⟩
  unfold lBody
  simp only [bnd, h1, h2]
  rw [wrap_in ((L.length : Int) + 1) (by omega) (by omega), if_neg (by omega)]
  rw [show ((L.length : Int) + 1).toNat = L.length + 1 by omega, show ((L.length : Int) + 1 + (B.length : Int)).toNat - (L.length + 1) = B.length by omega]
  have h3 : (L ++ 10 :: (B ++ [125, 10]) : List UInt8).drop (L.length + 1) = B ++ [125, 10] := by
    rw [← List.drop_drop, List.drop_left]; rfl
  rw [h3, List.take_left]
end Go.Proofs.Tryz
end
section
namespace Go.Proofs.Tryz
open Go Go.AM
set_option linter.unusedVariables false

theorem stT_end (t : StmtD) (n : Nat) : ∃ c, stT t n = c ++ [10] := by
  obtain ⟨k, at_, name, ty, p, rv, op, then_, else_, arms⟩ := t
  rw [stT]
  repeat' split
  all_goals (simp only [lineT, ← List.append_assoc]; exact ⟨_, rfl⟩)
theorem blT_end : ∀ (l : List StmtD) (n : Nat), blT l n = [] ∨ ∃ c, blT l n = c ++ [10]
  | [], n => by simp [blT]
  | t :: r, n => by
    obtain ⟨c, hc⟩ := stT_end t (n + 1)
    right
    rw [blT, hc]
    rcases blT_end r n with h | ⟨d, h⟩
    · rw [h]; exact ⟨c, by simp⟩
    · rw [h]; exact ⟨c ++ [10] ++ d, by simp⟩
theorem text_one (l : List StmtD) : textS (nestF l) = [99, 111, 32, 102, 40, 41, 32, 123] ++ 10 :: (blT l 0 ++ [125, 10]) := by
  simp [textS, fnT, lineT, tabsT, joinT, Lib.join_nil]
theorem body_one (l : List StmtD) (h : (blT l 0).length ≤ 40000000000000) : lBody (textS (nestF l)) = blT l 0 := by
  rw [text_one]
  exact lBody_mid _ _ (by decide) (blT_end l 0) (by simp; omega)
theorem blT_while (l : List StmtD) : blT [nestW l] 0 = lineT 1 [[119, 104, 105, 108, 101, 32], dig 1, [32, 123]] ++ blT l 1 ++ lineT 1 [[125]] := by
  simp only [blT, List.append_nil]
  rw [stT]
  simp [opT]
end Go.Proofs.Tryz
end
section
namespace Go.Proofs.Tryz
open Go Go.AM
set_option maxRecDepth 10000
set_option linter.unusedVariables false

def TL (a b : List UInt8) : Prop := ∀ r, tabF (a ++ r) true = b ++ tabF r true
theorem TL.nil : TL [] [] := fun r => rfl
theorem TL.app {a b a' b' : List UInt8} (h : TL a b) (h' : TL a' b') : TL (a ++ a') (b ++ b') := fun r => by rw [List.append_assoc, h, h', List.append_assoc]
theorem TL.line {n : Nat} {xs : List (List UInt8)} (h : ∀ w ∈ xs, okW w) : TL (lineT n xs) (lineT (n + 1) xs) := fun r => tab_lineT n xs r h
theorem TL.bl {n : Nat} : ∀ {l : List StmtD}, (∀ t ∈ l, TL (stT t (n + 1)) (stT t (n + 2))) → TL (blT l n) (blT l (n + 1))
  | [], _ => by simpa [blT] using TL.nil
  | t :: l, h => by
    rw [blT, blT]
    exact TL.app (h t (by simp)) (TL.bl fun u hu => h u (by simp [hu]))
theorem TL.ar {n : Nat} : ∀ {l : List ArmD}, (∀ t ∈ l, TL (amT t n) (amT t (n + 1))) → TL (arT l n) (arT l (n + 1))
  | [], _ => by simpa [arT] using TL.nil
  | t :: l, h => by
    rw [arT, arT]
    exact TL.app (h t (by simp)) (TL.ar fun u hu => h u (by simp [hu]))

theorem okW_bind {b : List UInt8} (h : b = [] ∨ rSmall b = true) : okW (bindT b) := by
  unfold bindT
  split
  · exact okW_nil
  · rename_i hn
    exact okW_app (okW_app (by decide) (okW_small (h.resolve_left hn))) (by decide)

theorem tl_main : ∀ k : Nat, (∀ (l : List StmtD) (d : Int), rValidBlock_f k l d = true → ∀ n, TL (blT l n) (blT l (n + 1))) ∧ (∀ (t : StmtD) (d : Int), rValidStmt_f k t d = true → ∀ n, TL (stT t n) (stT t (n + 1)))
  | 0 => ⟨fun _ _ h => (by cases h), fun _ _ h => (by cases h)⟩
  | k + 1 => by
    obtain ⟨hB, hS⟩ := tl_main k
    refine ⟨fun l d h n => ?_, fun t d h n => ?_⟩
    · rw [rB_eq, Bool.and_eq_true, List.all_eq_true] at h
      exact TL.bl fun t ht => hS t d (h.2 t ht) (n + 1)
    · rw [rValidStmt_f] at h
      obtain ⟨kk, at_, name, ty, p, rv, op, then_, else_, arms⟩ := t
      unfold rValidStmt_b at h
      rw [rArms_eq] at h
      dsimp only [bnd] at h
      rw [stT, stT]
      have o1 : okW [108, 101, 116, 32] := by decide
      have o2 : okW [58, 32] := by decide
      have o3 : okW [32, 61, 32] := by decide
      have o4 : okW [59] := by decide
      have o5 : okW [32, 123] := by decide
      have o6 : okW [125] := by decide
      have o7 : okW [125, 32, 101, 108, 115, 101, 32, 123] := by decide
      have cl : TL (lineT n [[125]]) (lineT (n + 1) [[125]]) := TL.line (by simpa using o6)
      by_cases h0 : kk = 0
      · simp only [if_pos h0, Bool.and_eq_true] at h ⊢
        have g1 := okW_small h.1.1.1.1.1.1.1
        have g2 := okW_ty _ _ _ (Nat.lt_succ_self _) h.1.1.1.1.1.1.2
        have g3 := okW_rv h.1.1.1.1.1.2
        exact TL.line (by simp; exact ⟨o1, g1, o2, g2, o3, g3, o4⟩)
      simp only [if_neg h0] at h ⊢
      by_cases h1 : kk = 1
      · simp only [if_pos h1, Bool.and_eq_true] at h ⊢
        have g1 := okW_place h.1.1.1.1.1.2
        have g2 := okW_rv h.1.1.1.1.2
        exact TL.line (by simp; exact ⟨g1, o3, g2, o4⟩)
      simp only [if_neg h1] at h ⊢
      by_cases h2 : kk = 2
      · simp only [if_pos h2, Bool.and_eq_true] at h ⊢
        have g1 := okW_oper h.1.1.1.2
        refine TL.app (TL.app (TL.app (TL.line (by simp; exact ⟨by decide, g1, o5⟩)) (hB _ _ h.1.1.2 n)) ?_) cl
        split
        · exact TL.nil
        · exact TL.app (TL.line (by simpa using o7)) (hB _ _ h.1.2 n)
      simp only [if_neg h2] at h ⊢
      by_cases h3 : kk = 3
      · simp only [if_pos h3, Bool.and_eq_true] at h ⊢
        have g1 := okW_oper h.1.1.1.2
        exact TL.app (TL.app (TL.line (by simp; exact ⟨by decide, g1, o5⟩)) (hB _ _ h.1.1.2 n)) cl
      simp only [if_neg h3] at h ⊢
      by_cases h4 : kk = 4
      · simp only [if_pos h4] at h ⊢
        split at h
        · cases h
        · rename_i hn
          have g1 : okW (plT p) := okW_place (b := true) (Classical.byContradiction fun hc => hn (by simp [hc]))
          simp only [Bool.and_true, List.all_eq_true, Bool.and_eq_true] at h
          refine TL.app (TL.app (TL.line (by simp; exact ⟨by decide, g1, o5⟩)) (TL.ar fun a ha => ?_)) cl
          obtain ⟨ga, gb, gc⟩ := h a ha
          obtain ⟨v, b, body⟩ := a
          rw [amT, amT]
          refine TL.app (TL.app (TL.line ?_) (hB _ _ gc (n + 1))) (TL.line (by simpa using o6))
          have q1 := okW_great ga
          have q2 := okW_bind (b := b) (by rw [Bool.or_eq_true, decide_eq_true_eq] at gb; exact gb)
          simp
          exact ⟨q1, q2, by decide⟩
      simp only [if_neg h4] at h ⊢
      by_cases h567 : kk = 5 ∨ kk = 6 ∨ kk = 7
      · have hv : (if kk = 5 then true else if kk = 6 then true else decide (kk = 7)) = true := by
          by_cases h5 : kk = 5
          · rw [if_pos h5]
          · by_cases h6 : kk = 6
            · rw [if_neg h5, if_pos h6]
            · rw [if_neg h5, if_neg h6, decide_eq_true (by omega)]
        rw [hv, if_pos rfl] at h
        simp only [Bool.and_eq_true] at h
        have g1 := okW_oper h.1.1.1.2
        by_cases h5 : kk = 5
        · simp only [if_pos h5]; exact TL.line (by simp; exact ⟨by decide, g1, o4⟩)
        simp only [if_neg h5]
        by_cases h6 : kk = 6
        · simp only [if_pos h6]; exact TL.line (by simp; exact ⟨by decide, g1, o4⟩)
        simp only [if_neg h6]
        by_cases h7 : kk = 7
        · simp only [if_pos h7]; exact TL.line (by simp; exact ⟨by decide, g1, o4⟩)
        omega
      · have hv : (if kk = 5 then true else if kk = 6 then true else decide (kk = 7)) = false := by
          rw [if_neg (by omega), if_neg (by omega), decide_eq_false (by omega)]
        rw [hv] at h
        simp only [Bool.false_eq_true, if_false] at h
        by_cases h8 : kk = 8
        · simp only [if_pos h8, Bool.and_eq_true] at h
          have n5 : ¬ kk = 5 := by omega
          have n6 : ¬ kk = 6 := by omega
          have n7 : ¬ kk = 7 := by omega
          simp only [if_neg n5, if_neg n6, if_neg n7, if_pos h8]
          have g1 := okW_place h.1.1.1.1.1.2
          exact TL.line (by simp; exact ⟨by decide, g1, o4⟩)
        · rw [if_neg h8] at h
          cases h

theorem tab_valid (l : List StmtD) (h : tValid05 (nestF l) = true) : tabF (blT l 0) true = blT l 1 := by
  rw [show tValid05 (nestF l) = rValidBlock l 1 from f_valid l] at h
  have := (tl_main _).1 l 1 h 0 []
  simpa [tabF] using this
theorem dig_one : dig 1 = [49] := by
  rw [dig_eq (by unfold inI64; omega)]
  have : Lib.itoa 1 = Lib.decDigits 1 := rfl
  rw [this, Lib.decDigits_one (by omega)]
  rfl
theorem lTreeNest_true (l : List StmtD) (hz : bkR (l.map stmtC) ≤ 1048576) : lTreeNest l = true := by
  unfold lTreeNest
  split
  · rfl
  · rename_i h
    rw [not_or, Classical.not_not] at h
    have hl := (all_len _).1 l 0 (Nat.le_refl _) (by omega)
    have hw : bkR ([nestW l].map stmtC) ≤ 1048700 := by
      simp only [stmtC_eq, bkL, bkV, bkR, List.map_cons, List.map_nil, List.length_cons, List.length_nil, ← Nat.add_assoc]
      omega
    have hl2 := (all_len _).1 [nestW l] 0 (Nat.le_refl _) (by omega)
    have e1 := body_one l (by omega)
    have e2 := body_one [nestW l] (by omega)
    rw [show (SourceD.mk [] [] [FnD.mk ([102] : List UInt8) [] [nestW l] 0]) = nestF [nestW l] from rfl, e2, e1, lTabbed_eq _ (by omega), tab_valid l h.2, blT_while, dig_one]
    rw [decide_eq_true_eq]
    simp [lineT, tabsT]
end Go.Proofs.Tryz
end
section
namespace Go.Proofs.Tryz
open Go Go.AM
attribute [local simp] wpG_op wpG_nil contG_some wpG_guard guardG_v guardG_o guardG_tup gval pureOp stepG_if isPick pickG_pick pickB_b pickOK isCall step_move step_assign step_alloc step_box boxV_some step_load step_store step_binOp step_unOp step_fieldAddr faV step_indexAddr ixA_slc ixA_arr step_extract extV_tup step_nilCheck ncV_ptr ncV_rp ncV_fn ncV_mp step_build buildV step_buildSlice bsV step_index ixV_arr ixV_str step_append apB step_makeSlice msV_i step_makeFunc over step_len step_makeMap mmV step_mapUpdate step_insert muA_map muB_mp step_lookup lkA_map lkB_mp step_slice slcV_s slcV_sl slcV_ro cutB_some slObV_arr bound_none bound_some bndV_i lenB_str lenB_ro lenB_sl lenB_nil lenB_z ld_ptr ld_rp offV_ptr offV_rp idxV_ro idxV_sl unV_not unV_neg binV_int binV_str binV_eqlb binV_neqb intOp strOp St.put updL setOb St.ev toV St.lk cellsOf AM.valOf TK.agg stv fillV places TI.zero condT_true condT_false finS resL resSlot packV ren ren1 ren0 Value.cells builtinV appendV elemsOf keepT room_of wrap_in toIdx passed Function.comp_def take_len_map lenV touchOf hid tab1 tab2 tab3 tab4 tab5 tab6 tab7 tab8 tab9 tab20 tab22 tab23 tab24 tab26 tab32 tab33 tab35 tab36 tab37 tab39 tab41 tab42 tab43 tab45 tab46 tab47 tab49 tab50 tab52 tab74 tab79 tab83 tab86 tab87 tab89 tab92 tab100 tab101 tab102 tab103 tab105 tab107 tab108 tab113 tab114 tab116 tab117 tab118 tab122 tab123 tab125 tab127 tab130 tab132 tab136 tab173 tab175 tab178 tab179 tab180 tab182 tab189 tab215 tab219 tab220 tab224 tab225 tab241 tab244 tab247 tab253 tab261 tab262 tab265 tab266 armC_eq blockC_eq bodyC_eq enumC_eq fieldC_eq fnC_eq inC_eq localC_eq mirBodyC_eq operC_eq placeC_eq rvC_eq sourceC_eq spotC_eq stepC_eq stmtC_eq structC_eq tmC_eq tyC_eq useC_eq valueC_eq variantC_eq binV_eqls binV_neqs cutL_nil cutL_junk cutL_cons ren_arr ren_gone ren_unborn ren_var ren_row step_convert cvV_i cvV_sl cvV_s cvK_slc cvE_u8 bytesOf bor1 bor2 bor3 bor4
set_option linter.unusedSimpArgs false
set_option linter.unusedVariables false
set_option maxRecDepth 10000
set_option maxHeartbeats 4000000
noncomputable section
set_option linter.unusedVariables false
theorem rd_TyD (k : Nat) (xs : List V) (h : shpW tab k 45 xs) : ∃ x : TyD, xs = tyC x ∧ True := by
  obtain ⟨yss, h1, h2, k', hk, h3⟩ := shpW_fields h (show (tab 45).kind = .str [(0, 42), (1, 9), (2, 43)] from rfl)
  match yss, h2 with
  | [y0, y1, y2], _ =>
    obtain ⟨a0, rfl, b0⟩ := shpW_int (h3 0 _ _ rfl rfl) (show (tab 42).kind = .int .i64 from rfl)
    obtain ⟨a1, rfl, b1⟩ := shpW_str (h3 1 _ _ rfl rfl) (show (tab 9).kind = .string from rfl)
    obtain ⟨a2, rfl, b2, c2⟩ := shpW_slc tyC (fun x => True) (h3 2 _ _ rfl rfl) (show (tab 43).kind = .slc 45 from rfl) (fun k _ l hl => rd_TyD k l hl)
    exact ⟨⟨a0, a1, a2⟩, by rw [h1]; simp [tyC_eq], trivial⟩
termination_by k
decreasing_by all_goals omega

theorem rd_StepD (k : Nat) (xs : List V) (h : shpW tab k 79 xs) : ∃ x : StepD, xs = stepC x ∧ True := by
  obtain ⟨yss, h1, h2, k', hk, h3⟩ := shpW_fields h (show (tab 79).kind = .str [(0, 9)] from rfl)
  match yss, h2 with
  | [y0], _ =>
    obtain ⟨a0, rfl, b0⟩ := shpW_str (h3 0 _ _ rfl rfl) (show (tab 9).kind = .string from rfl)
    exact ⟨⟨a0⟩, by rw [h1]; simp [stepC_eq], trivial⟩

theorem rd_PlaceD (k : Nat) (xs : List V) (h : shpW tab k 39 xs) : ∃ x : PlaceD, xs = placeC x ∧ True := by
  obtain ⟨yss, h1, h2, k', hk, h3⟩ := shpW_fields h (show (tab 39).kind = .str [(0, 9), (1, 37)] from rfl)
  match yss, h2 with
  | [y0, y1], _ =>
    obtain ⟨a0, rfl, b0⟩ := shpW_str (h3 0 _ _ rfl rfl) (show (tab 9).kind = .string from rfl)
    obtain ⟨a1, rfl, b1, c1⟩ := shpW_slc stepC (fun x => True) (h3 1 _ _ rfl rfl) (show (tab 37).kind = .slc 79 from rfl) (fun k _ l hl => rd_StepD k l hl)
    exact ⟨⟨a0, a1⟩, by rw [h1]; simp [placeC_eq], trivial⟩

theorem rd_OperD (k : Nat) (xs : List V) (h : shpW tab k 41 xs) : ∃ x : OperD, xs = operC x ∧ True := by
  obtain ⟨yss, h1, h2, k', hk, h3⟩ := shpW_fields h (show (tab 41).kind = .str [(0, 4), (1, 3), (2, 39)] from rfl)
  match yss, h2 with
  | [y0, y1, y2], _ =>
    obtain ⟨a0, rfl⟩ := shpW_bool (h3 0 _ _ rfl rfl) (show (tab 4).kind = .bool from rfl)
    obtain ⟨a1, rfl, b1⟩ := shpW_int (h3 1 _ _ rfl rfl) (show (tab 3).kind = .int .i64 from rfl)
    obtain ⟨a2, rfl, b2⟩ := rd_PlaceD _ _ (h3 2 _ _ rfl rfl)
    exact ⟨⟨a0, a1, a2⟩, by rw [h1]; simp [operC_eq], trivial⟩

theorem rd_RvD (k : Nat) (xs : List V) (h : shpW tab k 49 xs) : ∃ x : RvD, xs = rvC x ∧ True := by
  obtain ⟨yss, h1, h2, k', hk, h3⟩ := shpW_fields h (show (tab 49).kind = .str [(0, 46), (1, 47), (2, 39), (4, 9), (5, 9)] from rfl)
  match yss, h2 with
  | [y0, y1, y2, y3, y4], _ =>
    obtain ⟨a0, rfl, b0⟩ := shpW_int (h3 0 _ _ rfl rfl) (show (tab 46).kind = .int .i64 from rfl)
    obtain ⟨a1, rfl, b1, c1⟩ := shpW_slc operC (fun x => True) (h3 1 _ _ rfl rfl) (show (tab 47).kind = .slc 41 from rfl) (fun k _ l hl => rd_OperD k l hl)
    obtain ⟨a2, rfl, b2⟩ := rd_PlaceD _ _ (h3 2 _ _ rfl rfl)
    obtain ⟨a3, rfl, b3⟩ := shpW_str (h3 3 _ _ rfl rfl) (show (tab 9).kind = .string from rfl)
    obtain ⟨a4, rfl, b4⟩ := shpW_str (h3 4 _ _ rfl rfl) (show (tab 9).kind = .string from rfl)
    exact ⟨⟨a0, a1, a2, a3, a4⟩, by rw [h1]; simp [rvC_eq], trivial⟩

mutual
theorem rd_ArmD (k : Nat) (xs : List V) (h : shpW tab k 136 xs) : ∃ x : ArmD, xs = armC x ∧ True := by
  obtain ⟨yss, h1, h2, k', hk, h3⟩ := shpW_fields h (show (tab 136).kind = .str [(0, 9), (1, 9), (2, 32)] from rfl)
  match yss, h2 with
  | [y0, y1, y2], _ =>
    obtain ⟨a0, rfl, b0⟩ := shpW_str (h3 0 _ _ rfl rfl) (show (tab 9).kind = .string from rfl)
    obtain ⟨a1, rfl, b1⟩ := shpW_str (h3 1 _ _ rfl rfl) (show (tab 9).kind = .string from rfl)
    obtain ⟨a2, rfl, b2, c2⟩ := shpW_slc stmtC (fun x => True) (h3 2 _ _ rfl rfl) (show (tab 32).kind = .slc 52 from rfl) (fun k _ l hl => rd_StmtD k l hl)
    exact ⟨⟨a0, a1, a2⟩, by rw [h1]; simp [armC_eq], trivial⟩
termination_by k
decreasing_by all_goals omega

theorem rd_StmtD (k : Nat) (xs : List V) (h : shpW tab k 52 xs) : ∃ x : StmtD, xs = stmtC x ∧ True := by
  obtain ⟨yss, h1, h2, k', hk, h3⟩ := shpW_fields h (show (tab 52).kind = .str [(0, 36), (1, 3), (2, 9), (3, 45), (6, 39), (8, 49), (14, 41), (18, 32), (19, 32), (20, 50)] from rfl)
  match yss, h2 with
  | [y0, y1, y2, y3, y4, y5, y6, y7, y8, y9], _ =>
    obtain ⟨a0, rfl, b0⟩ := shpW_int (h3 0 _ _ rfl rfl) (show (tab 36).kind = .int .i64 from rfl)
    obtain ⟨a1, rfl, b1⟩ := shpW_int (h3 1 _ _ rfl rfl) (show (tab 3).kind = .int .i64 from rfl)
    obtain ⟨a2, rfl, b2⟩ := shpW_str (h3 2 _ _ rfl rfl) (show (tab 9).kind = .string from rfl)
    obtain ⟨a3, rfl, b3⟩ := rd_TyD _ _ (h3 3 _ _ rfl rfl)
    obtain ⟨a4, rfl, b4⟩ := rd_PlaceD _ _ (h3 4 _ _ rfl rfl)
    obtain ⟨a5, rfl, b5⟩ := rd_RvD _ _ (h3 5 _ _ rfl rfl)
    obtain ⟨a6, rfl, b6⟩ := rd_OperD _ _ (h3 6 _ _ rfl rfl)
    obtain ⟨a7, rfl, b7, c7⟩ := shpW_slc stmtC (fun x => True) (h3 7 _ _ rfl rfl) (show (tab 32).kind = .slc 52 from rfl) (fun k _ l hl => rd_StmtD k l hl)
    obtain ⟨a8, rfl, b8, c8⟩ := shpW_slc stmtC (fun x => True) (h3 8 _ _ rfl rfl) (show (tab 32).kind = .slc 52 from rfl) (fun k _ l hl => rd_StmtD k l hl)
    obtain ⟨a9, rfl, b9, c9⟩ := shpW_slc armC (fun x => True) (h3 9 _ _ rfl rfl) (show (tab 50).kind = .slc 136 from rfl) (fun k _ l hl => rd_ArmD k l hl)
    exact ⟨⟨a0, a1, a2, a3, a4, a5, a6, a7, a8, a9⟩, by rw [h1]; simp [stmtC_eq], trivial⟩
termination_by k
decreasing_by all_goals omega
end

end
end Go.Proofs.Tryz
end
section
namespace Go.Proofs.YtakfpmogpnoibaaGreatDoor
open Go.ChangeShapes Go.WideShapes Go.ChangeAt Go.RowKit Go.AM Go.Proofs.Tryz

theorem ownKnobNone : ownKnob Tryz.prog.godebug = none := by kernel_rfl
theorem laidOutAll : laidOutB Tryz.prog = true := by kernel_rfl
def readT : List TypeId := [3, 4, 9, 22, 23, 24, 26, 32, 33, 35, 36, 37, 39, 41, 42, 43, 45, 46, 47, 49, 50, 52, 79, 86, 87, 89, 92, 100, 136]
theorem readT_closed : closedS tab readT = true := by decide +kernel

theorem gokOf {W : World} {L : List (String × DataW Unit)} (hL : L.drop 2 = [("internal/strconv.uint64pow10", Lib.tabData .u64 Lib.pow10Tab)])
    (hp : (L.all fun x => x.2.handleName?.isNone) = true) (h : laidMetH Tryz.prog L W) : GOK Tryz.prog W (fun _ => False) := by
  rw [MakeChecks.laidMetH_plain _ _ _ hp] at h
  obtain ⟨a, b, rfl⟩ : ∃ a b, L = [a, b, ("internal/strconv.uint64pow10", Lib.tabData .u64 Lib.pow10Tab)] := by
    match L, hL with
    | a :: b :: r, hL => exact ⟨a, b, by rw [show r = _ from hL]⟩
  have h1 := Lib.tabIs_of_head (g := 0) (t := 261) (e := 247) (n := 20) (by kernel_rfl) (by kernel_rfl) (by kernel_rfl) (by kernel_rfl) (by kernel_rfl) (by kernel_rfl) (laidMet.tail (laidMet.tail h))
  intro e he
  obtain rfl := List.mem_singleton.1 he
  refine ⟨h1, fun g hg => ⟨?_, not_false⟩⟩
  unfold Lib.TabIs World.var? at h1
  rw [hg] at h1
  simp only [Option.bind_some] at h1
  rcases Nat.lt_or_ge g W.heap.size with h' | h'
  · exact h'
  · rw [Array.getElem?_eq_none h'] at h1; cases h1
end Go.Proofs.YtakfpmogpnoibaaGreatDoor
end
section
namespace Go.Proofs.YtakfpmogpnoibaaGreatDoor
open Go.ChangeShapes Go.WideShapes Go.ChangeAt Go.RowKit Go.AM Go.Proofs.Tryz

theorem bulk_all {H : Type} : ∀ ds : List (DataW H), Rows.uptoBulkAll ds = (ds.map Rows.uptoBulk).sum
  | [] => rfl
  | d :: ds => by simp only [Rows.uptoBulkAll, List.map_cons, List.sum_cons, bulk_all ds]
theorem bulk_pos {H : Type} : ∀ d : DataW H, 1 ≤ Rows.uptoBulk d
  | .lit l => by cases l <;> simp [Rows.uptoBulk]
  | .nil => by simp [Rows.uptoBulk]
  | .ptr _ => by simp [Rows.uptoBulk]
  | .slice _ _ => by simp [Rows.uptoBulk]
  | .agg _ => by simp [Rows.uptoBulk]
  | .iface _ _ => by simp [Rows.uptoBulk]
  | .map _ => by simp [Rows.uptoBulk]
  | .held _ => by simp [Rows.uptoBulk]

set_option maxRecDepth 100000 in
theorem treeNestLifted (HQ : ∀ (x0 : V) (n0 : Nat), shpW tab n0 32 [x0] → bkL [x0] ≤ 1048576 → QC Tryz.prog 6 [x0] [] (.b true) []) (os : Os) (started : os.Started) (H : Type) (enc : TypeId × Value → H) (F0 : Stop.Interp) :
    ReturnsInHanded {} Tryz.checked os 6 .any (OpenSpec.preRow enc Tryz.prog Tryz.f6 (Rows.OpenSpec.upto Rows.treeNestSpec) Rows.treeNestUptoRow.domain false Rows.treeNestUptoRow.laid)
      (((Rows.OpenSpec.upto Rows.treeNestSpec).at F0).post enc Tryz.prog Tryz.f6 false true false false) := by
  refine returnsInHanded_of_cond_and (C := Tryz.checked) (s := Rows.OpenSpec.upto Rows.treeNestSpec) (k := Rows.uptoSmall) rfl ownKnobNone started (by kernel_rfl) Tryz.func6
    (witness_cond (enc := enc) (C := Tryz.checked) (os := os) (s := Rows.OpenSpec.upto Rows.treeNestSpec) false (World.laidAll Tryz.prog os Rows.treeNestUptoRow.laid) #[.slice none 0 0] 8 (World.laidAll_os _ _ _)
      (World.shaped_of_ZipB (by kernel_rfl) (by kernel_rfl)) (by kernel_rfl)
      (OpenSpec.preRow_of_cond 8 (x := ([.nil], [], [])) (by kernel_rfl) (by kernel_rfl) (fun k hk => by cases hk; kernel_rfl) (by kernel_rfl) (by rw [MakeChecks.laidMetH_plain _ _ _ (by kernel_rfl)]; exact laidMet_laidAll _ (by kernel_rfl) (by kernel_rfl)))) ?_
  intro W base args ds gs before hval0 hW hk hwt hL
  have hval : ∀ (j : Nat) t v, Tryz.f6.params[j]? = some t → args[j]? = some v → Value.okWide Tryz.prog W .any base t v := hval0
  have hW' := hW
  obtain ⟨p, q, hA0, hV, rfl, _, _⟩ := hW
  have hA : DataW.TrodAll enc Tryz.prog W 0 (fun _ => true) true Tryz.f6.params.toList args.toList ds p := hA0
  rw [Tryz.params6] at hA hval
  have hw : ∀ x ∈ DataW.weightsEach Tryz.prog (Tryz.f6.params.toList ++ Rows.treeNestSpec.plain.varTypes Tryz.prog) (ds ++ gs), x ≤ reachBytes := fun x hx => of_decide_eq_true (List.all_eq_true.1 hwt x hx)
  have hz := of_decide_eq_true hk
  obtain ⟨v0, d0, rfl, rfl, h0⟩ := trodAll_one hA
  obtain ⟨rfl, rfl⟩ := trodVars_none hV
  rw [Tryz.params6] at hw
  have hw0 : ∀ q ∈ d0.weights Tryz.prog 32, q ≤ reachBytes := fun q hq => hw q (DataW.weights_mem_each (j := 0) rfl rfl q hq)
  simp only [List.append_nil] at hW'
  have hlt : ∀ x ∈ p, x.block < W.heap.size := fun x hx => by simpa using hW'.lt x (by simpa using hx)
  simp only [List.append_nil, Rows.uptoBulkAll] at hz
  obtain ⟨x0, ⟨n0, hs0⟩, hz0, hr0⟩ := arg_sliceB tabOK (T := tab) (t := 32) (S := readT) Rows.uptoBulk (fun s => by simp [Rows.uptoBulk]) bulk_pos (fun es sp => by simp only [Rows.uptoBulk, bulk_all]; omega) (fun ps => by simp only [Rows.uptoBulk, bulk_all]; omega) readT_closed rfl (by decide) (hval 0 32 v0 rfl rfl) h0 hw0
  refine ((HQ x0 n0 hs0 (by omega)).truth (gokOf (L := Rows.treeNestUptoRow.laid) (by kernel_rfl) (by kernel_rfl) hL) (vs := #[v0]) (W := W) rfl (fun ok hok D j x u hx hu => ?_)).mono fun e W' ⟨he, hb⟩ => ?_
  · match j with
    | 0 =>
      simp only [List.getElem?_cons_succ, List.getElem?_cons_zero, Option.some.injEq] at hx
      subst hx
      obtain rfl : v0 = u := by simpa using hu
      exact hr0 ok hok D
    | j + 1 => simp at hx
  · subst he
    refine ⟨_, rfl, _, _, _, [], p, [], by first | exact hW' | simpa using hW', ?_, ?_, ?_, hb.frame _, fun h => by cases h⟩
    · exact trodAll_mk1 (shut_bool Tryz.underlying4 true)
    · exact trodAll_mk1 (Below.trod laidOutAll (by kernel_rfl) (of_decide_eq_true (by kernel_rfl)) h0 hb hlt)
    · rfl

theorem treeNestHolds (HQ : ∀ (x0 : V) (n0 : Nat), shpW tab n0 32 [x0] → bkL [x0] ≤ 1048576 → QC Tryz.prog 6 [x0] [] (.b true) []) : Rows.TreeNestUptoSaid :=
  OpenClaim.holds_of_cond 6 Tryz.f6 rfl rfl rfl rfl rfl rfl rfl ⟨rfl, rfl, rfl, rfl, rfl⟩ rfl rfl rfl rfl rfl (by kernel_rfl) Tryz.func6 (by kernel_rfl)
    (of_decide_eq_true (by kernel_rfl)) (by unfold Func.isWrapper; rw [if_neg (by decide +kernel)]; exact ⟨rfl, rfl⟩)
    (fun os started H enc _ F0 => by rw [OpenClaim.pre_eq_preRow]; exact treeNestLifted HQ os started H enc F0)

theorem treeNestCard (HQ : ∀ (x0 : V) (n0 : Nat), shpW tab n0 32 [x0] → bkL [x0] ≤ 1048576 → QC Tryz.prog 6 [x0] [] (.b true) []) : Rows.TreeNestUptoCardSaid :=
  Claim7.holds_tied_plain_at .later [] [.data, .data, .data] true (true, "5fb048d045625182b10262516d9c4193a6b1e98e8e618b184d271e5fcbaa7853") false (treeNestHolds HQ) (fun _ h => by cases h) (by kernel_rfl) (fun _ h => by cases h) treeNestUpto_row_tie rfl ⟨rfl, rfl⟩ (by kernel_rfl) rfl
    (fun f fn hf hfn => by
      obtain rfl : f = 6 := Option.some.inj ((show Tryz.prog.funcNamed "cocoon/cocoonlaw05.TreeNest" = some 6 by kernel_rfl).symm.trans hf) |>.symm
      obtain rfl : fn = Tryz.f6 := (Option.some.inj (Tryz.func6.symm.trans hfn)).symm
      exact ⟨by kernel_rfl, fun j t ht => by
        rw [Tryz.params6] at ht
        have hm : t ∈ [32] := by simpa using Array.mem_of_getElem? ht
        have hall : ([32].all fun u => !Tryz.prog.wantsStandIn u) = true := by kernel_rfl
        exact (show Tryz.prog.wantsStandIn t = false by simpa using List.all_eq_true.1 hall t hm)⟩)
    (by kernel_rfl)

theorem treeNest_card : Rows.TreeNestUptoCardSaid := treeNestCard fun x0 n0 hs0 hz0 => by
  obtain ⟨l, hl, _⟩ := shpW_slc stmtC (fun _ => True) hs0 (show (tab 32).kind = .slc 52 from rfl) (fun k _ l hl => rd_StmtD k l hl)
  obtain rfl := List.head_eq_of_cons_eq hl
  have hw := wfL_of n0 _ _ hs0
  simp only [wfL, wfV, bkL, bkV] at hw hz0
  have h := w_lTreeNest l hw.1 (by omega)
  rw [lTreeNest_true l (by omega)] at h
  exact h
end Go.Proofs.YtakfpmogpnoibaaGreatDoor
end
