/- A program's text is just what the document says: CodeTexts, tied. No conditions. -/
import Derived.Test.YtaklafpfbhaoaaaDoorTie
import Derived.Test.YtaklafpfbhaoaaaDoorCards
import Derived.ProofKit
import Derived.OpenShut
import Derived.LaidMore
import Derived.Lay
import Derived.SevenTiedAt
import Derived.Stop.Joined
import Derived.Lib.ItoaLen
import Derived.Stop.LaidErr
import Derived.Test.YtaklafpfbhaoaaaDoorMachD
import Derived.Test.YtaklafpfbhaoaaaDoorWalkD
import Derived.Test.YtaklafpfbhaoaaaDoorBuildA
set_option linter.unusedVariables false
set_option linter.unusedSimpArgs false
set_option linter.constructorNameAsVariable false
section
namespace Go.Proofs.YtaklafpfbhaoaaaDoor
open Go.ChangeShapes Go.WideShapes Go.ChangeAt Go.RowKit Go.AM Go.Proofs.Tryd

theorem ownKnobNone : ownKnob Tryd.prog.godebug = none := by kernel_rfl
theorem laidOutAll : laidOutB Tryd.prog = true := by kernel_rfl

end Go.Proofs.YtaklafpfbhaoaaaDoor
end
section
namespace Go.Proofs.Tryd
open Go Go.AM
attribute [local simp] wpG_op wpG_nil contG_some wpG_guard guardG_v guardG_o guardG_tup gval pureOp stepG_if isPick pickG_pick pickB_b pickOK isCall step_move step_assign step_alloc step_box boxV_some step_load step_store step_binOp step_unOp step_fieldAddr faV step_indexAddr ixA_slc ixA_arr step_extract extV_tup step_nilCheck ncV_ptr ncV_rp ncV_fn ncV_mp step_build buildV step_buildSlice bsV step_index ixV_arr ixV_str step_append apB step_makeSlice msV_i step_makeFunc over step_len step_makeMap mmV step_mapUpdate step_insert muA_map muB_mp step_lookup lkA_map lkB_mp step_slice slcV_s slcV_sl slcV_ro cutB_some slObV_arr bound_none bound_some bndV_i lenB_str lenB_ro lenB_sl lenB_nil lenB_z ld_ptr ld_rp offV_ptr offV_rp idxV_ro idxV_sl unV_not unV_neg binV_int binV_str binV_eqlb binV_neqb intOp strOp St.put updL setOb St.ev toV St.lk cellsOf AM.valOf TK.agg stv fillV places TI.zero condT_true condT_false finS resL resSlot packV ren ren1 ren0 Value.cells builtinV appendV elemsOf keepT room_of wrap_in toIdx Ob.ren passed Function.comp_def take_len_map lenV touchOf hid tab1 tab2 tab3 tab4 tab5 tab6 tab7 tab8 tab9 tab10 tab11 tab12 tab13 tab14 tab15 tab16 tab17 tab18 tab19 tab20 tab21 tab22 tab23 tab24 tab25 tab26 tab28 tab29 tab30 tab31 tab32 tab33 tab34 tab35 tab36 tab37 tab38 tab39 tab40 tab41 tab42 tab43 tab44 tab45 tab46 tab48 tab49 tab50 tab51 tab52 tab53 tab54 tab55 tab56 tab57 tab58 tab59 tab60 tab61 tab62 tab63 tab64 tab65 tab67 tab68 tab69 tab70 tab71 tab72 tab73 tab74 tab75 tab76 tab77 tab78 tab79 tab80 tab81 tab82 tab83 tab84 tab85 tab86 tab89 tab90 tab91 tab92 tab93 tab94 tab95 tab96 tab98 tab99 tab100 tab101 tab102 tab103 tab104 tab105 tab106 tab107 tab108 tab109 tab113 tab114 tab115 tab116 tab117 tab118 tab119 tab120 ren_arr ren_gone ren_unborn ren_var ren_row insC coV funC
set_option linter.unusedSimpArgs false
set_option maxRecDepth 10000
set_option maxHeartbeats 4000000

instance : Inhabited InsD := ⟨⟨0, 0, 0, 0, []⟩⟩
instance : Inhabited CoD := ⟨⟨[], 0, 0, 0, 0⟩⟩
structure ProgD where
  funs : List (List InsD)
  cos : List CoD
instance : Inhabited ProgD := ⟨⟨[], []⟩⟩
def progC (p : ProgD) : List V := [.ro 1 (p.funs.map funC), .ro 5 (p.cos.map coV)]
attribute [local simp] progC
set_option linter.unusedVariables false
def F20_l6 (j3 : Nat) : List CoD → (List Int) → (List Int)
  | [], a6_0 => a6_0
  | x6 :: xs6, a6_0 => (bnd (a6_0.getD j3 default) fun (y8_12 : Int) => (if (x6.can = (j3 : Int)) ∧ (y8_12 = 0) then (if x6.res = (j3 : Int) then F20_l6 j3 xs6 ((a6_0.set j3 2).set j3 1) else F20_l6 j3 xs6 (a6_0.set j3 2)) else (if x6.res = (j3 : Int) then F20_l6 j3 xs6 (a6_0.set j3 1) else F20_l6 j3 xs6 a6_0)))
def F20_l3 (p0 : ProgD) : List (List InsD) → Nat → (List Int) → (List Int)
  | [], _, a3_0 => a3_0
  | _ :: xs3, j3, a3_0 => (bnd (F20_l6 j3 p0.cos a3_0) fun (v6 : (List Int)) => F20_l3 p0 xs3 (j3 + 1) v6)
def F20 (p0 : ProgD) : (List Int) :=
  (bnd (F20_l3 p0 p0.funs 0 (List.replicate p0.funs.length 0)) fun (v3 : (List Int)) => v3)
set_option maxHeartbeats 4000000 in
theorem w_F20 (p0 : ProgD) (hF : p0.funs.length ≤ 1000000) : QC prog 20 [.agg [.ro 1 (p0.funs.map funC), .ro 5 (p0.cos.map coV)]] [] (.ro 1 ((F20 p0).map (fun z => [n z]))) [] := by
  refine QC.of_body tabOK func20 rfl (by kernel_rfl) ?_
  simp only [f20]
  generalize e : F20 p0 = R
  unfold F20 at e
  refine EV.seq ?_
  refine EV.regionG tabOK ?_ -- region 0
  simp -implicitDefEqProofs
  refine EV.seq ?_
  have r1 : roomFor (p0.funs.length) 8 := room_of (by omega) (by decide)
  refine EV.regionG tabOK ?_ -- region 1
  simp -implicitDefEqProofs [r1]
  refine EV.seq ?_
  refine EV.seq ?_
  refine EV.regionG tabOK ?_ -- region 2
  simp -implicitDefEqProofs [r1]
  obtain ⟨z3, e3, e⟩ := bnd_split e
  refine EV.nrm (fun v : { v : ((List Int)) × (Unit) // z3 = v.1 ∧ (fun (v3 : (List Int)) => v3.length = p0.funs.length) v.1 } => (fun (v3 : (List Int)) (g3 : Unit) => (⟨[.junk, .junk, .junk, .sl 1 0 0 v3.length, .junk, .junk, .junk, .junk, .junk, .junk, .junk, .junk, .junk, .junk, .junk, .junk, .junk, .junk, .junk, .junk, .junk, .junk, .junk, .junk, .junk, .junk, .junk, .junk, .junk, .junk, .junk, .junk, .junk, .junk, .junk, .junk, .junk, .junk, .junk, .junk, .junk, .junk, .junk, .junk, .junk, .junk, .junk, .junk, .junk, .junk, .junk, .junk, .junk, .junk], [.arr 0 2 [[.ro 1 (p0.funs.map funC), .ro 5 (p0.cos.map coV)]], .arr 0 1 (v3.map (fun z => [n z]))]⟩ : St)) v.1.1 v.1.2) ?_ ?_
  · skip
    refine EV.block ?_
    refine EV.loopB (fun x : { x : Nat × (List Int) // x.1 ≤ p0.funs.length ∧ F20_l3 p0 (p0.funs.drop x.1) x.1 x.2 = z3 ∧ (fun (j3 : Nat) (a3_0 : List Int) => a3_0.length = p0.funs.length) x.1 x.2 } => (fun (j3 : Nat) (a3_0 : List Int) => (⟨[.junk, .ptr 0 0 0 0, .junk, .sl 1 0 0 a3_0.length, .i .i64 (j3 : Int), .junk, .junk, .junk, .junk, .junk, .junk, .junk, .junk, .junk, .junk, .junk, .junk, .junk, .junk, .junk, .junk, .junk, .junk, .junk, .junk, .junk, .junk, .junk, .junk, .junk, .junk, .junk, .junk, .junk, .junk, .junk, .junk, .junk, .junk, .junk, .junk, .junk, .junk, .junk, .junk, .junk, .junk, .junk, .junk, .junk, .junk, .junk, .junk, .junk], [.arr 0 2 [[.ro 1 (p0.funs.map funC), .ro 5 (p0.cos.map coV)]], .arr 0 1 (a3_0.map (fun z => [n z]))]⟩ : St)) x.1.1 x.1.2) (fun x => p0.funs.length - x.1.1) ⟨(0, (List.replicate p0.funs.length 0)), Nat.zero_le _, e3, by ((try dsimp only); first | omega | assumption | (simp; done) | (simp; assumption) | (simp; omega) | (simp at *; omega) | simp_all)⟩ ?_ ?_
    · skip
      try dsimp only
      try dsimp only
      refine Sub.cutE 2 [false, true, false, true, true, false, false, false, false, false, false, false, false, false, false, false, false, false, false, false, false, false, false, false, false, false, false, false, false, false, false, false, false, false, false, false, false, false, false, false, false, false, false, false, false, false, false, false, false, false, false, false, false, false] (by simp) ?_ ?_ <;> simp [List.range_succ, toIdx_range, passed, keepT, List.map_set, r1]
    · skip
      rintro ⟨⟨j3, a3_0⟩, hi3, e3, q3⟩
      simp only at hi3 e3 ⊢
      try dsimp only at q3
      refine EV.seq ?_
      refine EV.seq ?_
      refine EV.regionG tabOK ?_ -- region 3
      simp -implicitDefEqProofs [r1]
      refine EV.room 12 (by rfl) (fun mj3 => ?_)
      simp at mj3
      refine EV.condT ?_
      simp -implicitDefEqProofs [r1]
      refine condT_intro (fun k2 => ?_) (fun k2 => ?_)
      · try simp at k2
        have u2 : j3 < p0.funs.length := by omega
        obtain ⟨x3, hx3⟩ : ∃ z, p0.funs[j3] = z := ⟨_, rfl⟩
        have mx3 : x3 ∈ p0.funs := by rw [← hx3]; exact List.getElem_mem _
        rw [List.drop_eq_getElem_cons u2, hx3, F20_l3] at e3
        refine EV.skip ?_
        simp only [thenK_normal, blockK_normal, scopeK_normal]
        refine EV.seq ?_
        refine EV.block ?_
        refine EV.seq ?_
        refine EV.regionG tabOK ?_ -- region 5
        simp -implicitDefEqProofs [r1, k2, u2, hx3]
        obtain ⟨z6, e6, e3⟩ := bnd_split e3
        refine EV.nrm (fun v : { v : ((List Int)) × (Unit) // z6 = v.1 ∧ (fun (v6 : (List Int)) => v6.length = p0.funs.length) v.1 } => (fun (v6 : (List Int)) (g6 : Unit) => (⟨[.junk, .ptr 0 0 0 0, .junk, .sl 1 0 0 v6.length, .i .i64 (j3 : Int), .junk, .junk, .junk, .junk, .junk, .junk, .junk, .junk, .junk, .junk, .junk, .junk, .junk, .junk, .junk, .junk, .junk, .junk, .junk, .junk, .junk, .junk, .junk, .junk, .junk, .junk, .junk, .junk, .junk, .junk, .junk, .junk, .junk, .junk, .junk, .junk, .junk, .junk, .junk, .junk, .junk, .junk, .junk, .junk, .junk, .junk, .junk, .junk, .junk], [.arr 0 2 [[.ro 1 (p0.funs.map funC), .ro 5 (p0.cos.map coV)]], .arr 0 1 (v6.map (fun z => [n z]))]⟩ : St)) v.1.1 v.1.2) ?_ ?_
        · skip
          refine EV.block ?_
          refine EV.loopB (fun x : { x : Nat × (List Int) // x.1 ≤ p0.cos.length ∧ F20_l6 j3 (p0.cos.drop x.1) x.2 = z6 ∧ (fun (j6 : Nat) (a6_0 : List Int) => a6_0.length = p0.funs.length) x.1 x.2 } => (fun (j6 : Nat) (a6_0 : List Int) => (⟨[.junk, .ptr 0 0 0 0, .junk, .sl 1 0 0 a6_0.length, .i .i64 (j3 : Int), .i .i64 (j6 : Int), .junk, .junk, .junk, .junk, .junk, .junk, .junk, .junk, .junk, .junk, .junk, .junk, .junk, .junk, .junk, .junk, .junk, .junk, .junk, .junk, .junk, .junk, .junk, .junk, .junk, .junk, .junk, .junk, .junk, .junk, .junk, .junk, .junk, .junk, .junk, .junk, .junk, .junk, .junk, .junk, .junk, .junk, .junk, .junk, .junk, .junk, .junk, .junk], [.arr 0 2 [[.ro 1 (p0.funs.map funC), .ro 5 (p0.cos.map coV)]], .arr 0 1 (a6_0.map (fun z => [n z]))]⟩ : St)) x.1.1 x.1.2) (fun x => p0.cos.length - x.1.1) ⟨(0, a3_0), Nat.zero_le _, e6, by ((try dsimp only); first | omega | assumption | (simp; done) | (simp; assumption) | (simp; omega) | (simp at *; omega) | simp_all)⟩ ?_ ?_
          · skip
            try dsimp only
            try dsimp only
            refine Sub.cutE 2 [false, true, false, true, true, true, false, false, false, false, false, false, false, false, false, false, false, false, false, false, false, false, false, false, false, false, false, false, false, false, false, false, false, false, false, false, false, false, false, false, false, false, false, false, false, false, false, false, false, false, false, false, false, false] (by simp) ?_ ?_ <;> simp [List.range_succ, toIdx_range, passed, keepT, List.map_set, r1, k2, u2, hx3]
          · skip
            rintro ⟨⟨j6, a6_0⟩, hi6, e6, q6⟩
            simp only at hi6 e6 ⊢
            try dsimp only at q6
            refine EV.seq ?_
            refine EV.seq ?_
            refine EV.regionG tabOK ?_ -- region 6
            simp -implicitDefEqProofs [r1, k2, u2, hx3]
            refine EV.room 19 (by rfl) (fun mj6 => ?_)
            simp at mj6
            refine EV.condT ?_
            simp -implicitDefEqProofs [r1, k2, u2, hx3]
            refine condT_intro (fun k3 => ?_) (fun k3 => ?_)
            · try simp at k3
              have u3 : j6 < p0.cos.length := by omega
              obtain ⟨x6, hx6⟩ : ∃ z, p0.cos[j6] = z := ⟨_, rfl⟩
              have mx6 : x6 ∈ p0.cos := by rw [← hx6]; exact List.getElem_mem _
              rw [List.drop_eq_getElem_cons u3, hx6, F20_l6] at e6
              refine EV.skip ?_
              simp only [thenK_normal, blockK_normal, scopeK_normal]
              refine EV.seq ?_
              refine EV.block ?_
              refine EV.seq ?_
              refine EV.seq ?_
              by_cases k4 : x6.can = (j3 : Int)
              · skip
                have b5 : 0 ≤ (j3 : Int) ∧ (j3 : Int) < (a6_0.length : Int) := by (first | omega | (simp; omega))
                have c5 : j3 < a6_0.length := by omega
                have b6 : 0 ≤ (j3 : Int) ∧ (j3 : Int) < (a6_0.length : Int) := by omega
                have c6 : j3 < a6_0.length := by omega
                obtain ⟨y8_12, hy8_12⟩ : ∃ z, a6_0[j3] = z := ⟨_, rfl⟩
                have my8_12 : y8_12 ∈ a6_0 := by rw [← hy8_12]; exact List.getElem_mem _
                have gy8_12 : a6_0.getD j3 default = y8_12 := by rw [List.getD_eq_getElem?_getD, List.getElem?_eq_getElem c6]; exact hy8_12
                replace e6 := bnd_on e6 gy8_12
                try dsimp only at e6
                refine EV.regionG tabOK ?_ -- region 8
                simp -implicitDefEqProofs +contextual [r1, k2, u2, hx3, k3, u3, hx6, k4, b5, c5, b6, c6, hy8_12]
                refine EV.condT ?_
                simp -implicitDefEqProofs [r1, k2, u2, hx3, k3, u3, hx6, k4, b5, c5, b6, c6, hy8_12]
                refine condT_intro (fun k7 => ?_) (fun k7 => ?_)
                · try simp at k7
                  replace e6 := pos_on e6 (by first | simpa [k4] using k7 | grind)
                  have b8 : 0 ≤ (j3 : Int) ∧ (j3 : Int) < (a6_0.length : Int) := by (first | omega | (simp; omega))
                  have c8 : j3 < a6_0.length := by omega
                  refine EV.regionG tabOK ?_ -- region 9
                  simp -implicitDefEqProofs [r1, k2, u2, hx3, k3, u3, hx6, k4, b5, c5, b6, c6, hy8_12, b8, c8]
                  refine EV.seq ?_
                  refine EV.regionG tabOK ?_ -- region 10
                  simp -implicitDefEqProofs [r1, k2, u2, hx3, k3, u3, hx6, k4, b5, c5, b6, c6, hy8_12, b8, c8]
                  refine EV.condT ?_
                  simp -implicitDefEqProofs [r1, k2, u2, hx3, k3, u3, hx6, k4, b5, c5, b6, c6, hy8_12, b8, c8]
                  refine condT_intro (fun k9 => ?_) (fun k9 => ?_)
                  · try simp at k9
                    replace e6 := pos_on e6 (by first | simpa [k4] using k9 | grind)
                    have b10 : 0 ≤ (j3 : Int) ∧ (j3 : Int) < ((a6_0.set j3 2).length : Int) := by (first | omega | (simp; omega))
                    have c10 : j3 < (a6_0.set j3 2).length := by omega
                    refine EV.regionG tabOK ?_ -- region 11
                    simp -implicitDefEqProofs [r1, k2, u2, hx3, k3, u3, hx6, k4, b5, c5, b6, c6, hy8_12, b8, c8, b10, c10]
                    refine EV.regionG tabOK ?_ -- region 7
                    simp -implicitDefEqProofs [r1, k2, u2, hx3, k3, u3, hx6, k4, b5, c5, b6, c6, hy8_12, b8, c8, b10, c10]
                    have w6 : IntKind.i64.wrap ((j6 : Int) + 1) = (j6 : Int) + 1 := wrap_in _ (by omega) (by omega)
                    refine ⟨⟨(j6 + 1, ((a6_0.set j3 2).set j3 1)), by omega, e6, by ((try dsimp only); first | omega | assumption | (simp; done) | (simp; assumption) | (simp; omega) | (simp at *; omega) | simp_all)⟩, by dsimp only; omega, ?_⟩
                    try dsimp only
                    refine Sub.cutE 2 [false, true, false, true, true, true, false, false, false, false, false, false, false, false, false, false, false, false, false, false, false, false, false, false, false, false, false, false, false, false, false, false, false, false, false, false, false, false, false, false, false, false, false, false, false, false, false, false, false, false, false, false, false, false] (by simp) ?_ ?_ <;> simp [List.range_succ, toIdx_range, passed, keepT, List.map_set, r1, k2, u2, hx3, k3, u3, hx6, k4, b5, c5, b6, c6, hy8_12, b8, c8, b10, c10, w6]
                  · try simp at k9
                    replace e6 := neg_on e6 (by first | simpa [k4] using k9 | grind)
                    refine EV.skip ?_
                    simp only [thenK_normal, blockK_normal, scopeK_normal]
                    refine EV.regionG tabOK ?_ -- region 7
                    simp -implicitDefEqProofs [r1, k2, u2, hx3, k3, u3, hx6, k4, b5, c5, b6, c6, hy8_12, b8, c8]
                    have w6 : IntKind.i64.wrap ((j6 : Int) + 1) = (j6 : Int) + 1 := wrap_in _ (by omega) (by omega)
                    refine ⟨⟨(j6 + 1, (a6_0.set j3 2)), by omega, e6, by ((try dsimp only); first | omega | assumption | (simp; done) | (simp; assumption) | (simp; omega) | (simp at *; omega) | simp_all)⟩, by dsimp only; omega, ?_⟩
                    try dsimp only
                    refine Sub.cutE 2 [false, true, false, true, true, true, false, false, false, false, false, false, false, false, false, false, false, false, false, false, false, false, false, false, false, false, false, false, false, false, false, false, false, false, false, false, false, false, false, false, false, false, false, false, false, false, false, false, false, false, false, false, false, false] (by simp) ?_ ?_ <;> simp [List.range_succ, toIdx_range, passed, keepT, List.map_set, r1, k2, u2, hx3, k3, u3, hx6, k4, b5, c5, b6, c6, hy8_12, b8, c8, w6]
                · try simp at k7
                  replace e6 := neg_on e6 (by first | simpa [k4] using k7 | grind)
                  refine EV.skip ?_
                  simp only [thenK_normal, blockK_normal, scopeK_normal]
                  refine EV.seq ?_
                  refine EV.regionG tabOK ?_ -- region 10
                  simp -implicitDefEqProofs [r1, k2, u2, hx3, k3, u3, hx6, k4, b5, c5, b6, c6, hy8_12]
                  refine EV.condT ?_
                  simp -implicitDefEqProofs [r1, k2, u2, hx3, k3, u3, hx6, k4, b5, c5, b6, c6, hy8_12]
                  refine condT_intro (fun k11 => ?_) (fun k11 => ?_)
                  · try simp at k11
                    replace e6 := pos_on e6 (by first | simpa [k4] using k11 | grind)
                    have b12 : 0 ≤ (j3 : Int) ∧ (j3 : Int) < (a6_0.length : Int) := by (first | omega | (simp; omega))
                    have c12 : j3 < a6_0.length := by omega
                    refine EV.regionG tabOK ?_ -- region 11
                    simp -implicitDefEqProofs [r1, k2, u2, hx3, k3, u3, hx6, k4, b5, c5, b6, c6, hy8_12, b12, c12]
                    refine EV.regionG tabOK ?_ -- region 7
                    simp -implicitDefEqProofs [r1, k2, u2, hx3, k3, u3, hx6, k4, b5, c5, b6, c6, hy8_12, b12, c12]
                    have w6 : IntKind.i64.wrap ((j6 : Int) + 1) = (j6 : Int) + 1 := wrap_in _ (by omega) (by omega)
                    refine ⟨⟨(j6 + 1, (a6_0.set j3 1)), by omega, e6, by ((try dsimp only); first | omega | assumption | (simp; done) | (simp; assumption) | (simp; omega) | (simp at *; omega) | simp_all)⟩, by dsimp only; omega, ?_⟩
                    try dsimp only
                    refine Sub.cutE 2 [false, true, false, true, true, true, false, false, false, false, false, false, false, false, false, false, false, false, false, false, false, false, false, false, false, false, false, false, false, false, false, false, false, false, false, false, false, false, false, false, false, false, false, false, false, false, false, false, false, false, false, false, false, false] (by simp) ?_ ?_ <;> simp [List.range_succ, toIdx_range, passed, keepT, List.map_set, r1, k2, u2, hx3, k3, u3, hx6, k4, b5, c5, b6, c6, hy8_12, b12, c12, w6]
                  · try simp at k11
                    replace e6 := neg_on e6 (by first | simpa [k4] using k11 | grind)
                    refine EV.skip ?_
                    simp only [thenK_normal, blockK_normal, scopeK_normal]
                    refine EV.regionG tabOK ?_ -- region 7
                    simp -implicitDefEqProofs [r1, k2, u2, hx3, k3, u3, hx6, k4, b5, c5, b6, c6, hy8_12]
                    have w6 : IntKind.i64.wrap ((j6 : Int) + 1) = (j6 : Int) + 1 := wrap_in _ (by omega) (by omega)
                    refine ⟨⟨(j6 + 1, a6_0), by omega, e6, by ((try dsimp only); first | omega | assumption | (simp; done) | (simp; assumption) | (simp; omega) | (simp at *; omega) | simp_all)⟩, by dsimp only; omega, ?_⟩
                    try dsimp only
                    refine Sub.cutE 2 [false, true, false, true, true, true, false, false, false, false, false, false, false, false, false, false, false, false, false, false, false, false, false, false, false, false, false, false, false, false, false, false, false, false, false, false, false, false, false, false, false, false, false, false, false, false, false, false, false, false, false, false, false, false] (by simp) ?_ ?_ <;> simp [List.range_succ, toIdx_range, passed, keepT, List.map_set, r1, k2, u2, hx3, k3, u3, hx6, k4, b5, c5, b6, c6, hy8_12, w6]
              · skip
                replace e6 := bnd_on e6 rfl
                try dsimp only at e6
                refine EV.regionG tabOK ?_ -- region 8
                simp -implicitDefEqProofs +contextual [r1, k2, u2, hx3, k3, u3, hx6, k4]
                refine EV.condT ?_
                simp -implicitDefEqProofs [r1, k2, u2, hx3, k3, u3, hx6, k4]
                replace e6 := neg_on e6 (by simp [r1, k2, u2, hx3, k3, u3, hx6, k4])
                refine EV.skip ?_
                simp only [thenK_normal, blockK_normal, scopeK_normal]
                refine EV.seq ?_
                refine EV.regionG tabOK ?_ -- region 10
                simp -implicitDefEqProofs [r1, k2, u2, hx3, k3, u3, hx6, k4]
                refine EV.condT ?_
                simp -implicitDefEqProofs [r1, k2, u2, hx3, k3, u3, hx6, k4]
                refine condT_intro (fun k13 => ?_) (fun k13 => ?_)
                · try simp at k13
                  replace e6 := pos_on e6 (by first | simpa [k4] using k13 | grind)
                  have b14 : 0 ≤ (j3 : Int) ∧ (j3 : Int) < (a6_0.length : Int) := by (first | omega | (simp; omega))
                  have c14 : j3 < a6_0.length := by omega
                  refine EV.regionG tabOK ?_ -- region 11
                  simp -implicitDefEqProofs [r1, k2, u2, hx3, k3, u3, hx6, k4, b14, c14]
                  refine EV.regionG tabOK ?_ -- region 7
                  simp -implicitDefEqProofs [r1, k2, u2, hx3, k3, u3, hx6, k4, b14, c14]
                  have w6 : IntKind.i64.wrap ((j6 : Int) + 1) = (j6 : Int) + 1 := wrap_in _ (by omega) (by omega)
                  refine ⟨⟨(j6 + 1, (a6_0.set j3 1)), by omega, e6, by ((try dsimp only); first | omega | assumption | (simp; done) | (simp; assumption) | (simp; omega) | (simp at *; omega) | simp_all)⟩, by dsimp only; omega, ?_⟩
                  try dsimp only
                  refine Sub.cutE 2 [false, true, false, true, true, true, false, false, false, false, false, false, false, false, false, false, false, false, false, false, false, false, false, false, false, false, false, false, false, false, false, false, false, false, false, false, false, false, false, false, false, false, false, false, false, false, false, false, false, false, false, false, false, false] (by simp) ?_ ?_ <;> simp [List.range_succ, toIdx_range, passed, keepT, List.map_set, r1, k2, u2, hx3, k3, u3, hx6, k4, b14, c14, w6]
                · try simp at k13
                  replace e6 := neg_on e6 (by first | simpa [k4] using k13 | grind)
                  refine EV.skip ?_
                  simp only [thenK_normal, blockK_normal, scopeK_normal]
                  refine EV.regionG tabOK ?_ -- region 7
                  simp -implicitDefEqProofs [r1, k2, u2, hx3, k3, u3, hx6, k4]
                  have w6 : IntKind.i64.wrap ((j6 : Int) + 1) = (j6 : Int) + 1 := wrap_in _ (by omega) (by omega)
                  refine ⟨⟨(j6 + 1, a6_0), by omega, e6, by ((try dsimp only); first | omega | assumption | (simp; done) | (simp; assumption) | (simp; omega) | (simp at *; omega) | simp_all)⟩, by dsimp only; omega, ?_⟩
                  try dsimp only
                  refine Sub.cutE 2 [false, true, false, true, true, true, false, false, false, false, false, false, false, false, false, false, false, false, false, false, false, false, false, false, false, false, false, false, false, false, false, false, false, false, false, false, false, false, false, false, false, false, false, false, false, false, false, false, false, false, false, false, false, false] (by simp) ?_ ?_ <;> simp [List.range_succ, toIdx_range, passed, keepT, List.map_set, r1, k2, u2, hx3, k3, u3, hx6, k4, w6]
            · try simp at k3
              have d3 : p0.cos.drop j6 = [] := List.drop_eq_nil_of_le (by omega)
              rw [d3, F20_l6] at e6
              refine EV.exit ?_
              simp -implicitDefEqProofs
              refine ⟨⟨(a6_0, ()), e6.symm, by ((try dsimp only); first | omega | assumption | (simp; done) | (simp; assumption) | (simp; omega) | (simp at *; omega) | simp_all)⟩, ?_⟩
              try dsimp only
              refine Sub.cutE 2 [false, true, false, true, true, false, false, false, false, false, false, false, false, false, false, false, false, false, false, false, false, false, false, false, false, false, false, false, false, false, false, false, false, false, false, false, false, false, false, false, false, false, false, false, false, false, false, false, false, false, false, false, false, false] (by simp) ?_ ?_ <;> simp [List.range_succ, toIdx_range, passed, keepT, List.map_set, r1, k2, u2, hx3]
        · skip
          rintro ⟨⟨v6, g6⟩, e6, p6⟩
          simp only [thenK_normal, blockK_normal, scopeK_normal, bodyK_normal]
          try dsimp only at p6
          replace e3 := bnd_on e3 e6
          try dsimp only at e3
          refine EV.regionG tabOK ?_ -- region 4
          simp -implicitDefEqProofs [r1, k2, u2, hx3]
          have w3 : IntKind.i64.wrap ((j3 : Int) + 1) = (j3 : Int) + 1 := wrap_in _ (by omega) (by omega)
          refine ⟨⟨(j3 + 1, v6), by omega, e3, by ((try dsimp only); first | omega | assumption | (simp; done) | (simp; assumption) | (simp; omega) | (simp at *; omega) | simp_all)⟩, by dsimp only; omega, ?_⟩
          try dsimp only
          refine Sub.cutE 2 [false, true, false, true, true, false, false, false, false, false, false, false, false, false, false, false, false, false, false, false, false, false, false, false, false, false, false, false, false, false, false, false, false, false, false, false, false, false, false, false, false, false, false, false, false, false, false, false, false, false, false, false, false, false] (by simp) ?_ ?_ <;> simp [List.range_succ, toIdx_range, passed, keepT, List.map_set, r1, k2, u2, hx3, w3]
      · try simp at k2
        have d2 : p0.funs.drop j3 = [] := List.drop_eq_nil_of_le (by omega)
        rw [d2, F20_l3] at e3
        refine EV.exit ?_
        simp -implicitDefEqProofs
        refine ⟨⟨(a3_0, ()), e3.symm, by ((try dsimp only); first | omega | assumption | (simp; done) | (simp; assumption) | (simp; omega) | (simp at *; omega) | simp_all)⟩, ?_⟩
        try dsimp only
        refine Sub.cutE 2 [false, false, false, true, false, false, false, false, false, false, false, false, false, false, false, false, false, false, false, false, false, false, false, false, false, false, false, false, false, false, false, false, false, false, false, false, false, false, false, false, false, false, false, false, false, false, false, false, false, false, false, false, false, false] (by simp) ?_ ?_ <;> simp [List.range_succ, toIdx_range, passed, keepT, List.map_set, r1]
  · skip
    rintro ⟨⟨v3, g3⟩, e3, p3⟩
    simp only [thenK_normal, blockK_normal, scopeK_normal, bodyK_normal]
    try dsimp only at p3
    replace e := bnd_on e e3
    try dsimp only at e
    refine EV.seq ?_
    refine EV.regionG tabOK ?_ -- region 12
    simp -implicitDefEqProofs [r1]
    refine EV.ret ?_
    simp only [thenK_ret, blockK_ret, scopeK_ret, bodyK_ret]
    subst e
    refine Fin.ro ?_ ?_ ?_ ?_
    · simp [roOf, take_len_map]
    · simp
    · simp [Pu]
    · simp

end Go.Proofs.Tryd
end
section
namespace Go.Proofs.Tryd
open Go Go.AM
attribute [local simp] wpG_op wpG_nil contG_some wpG_guard guardG_v guardG_o guardG_tup gval pureOp stepG_if isPick pickG_pick pickB_b pickOK isCall step_move step_assign step_alloc step_box boxV_some step_load step_store step_binOp step_unOp step_fieldAddr faV step_indexAddr ixA_slc ixA_arr step_extract extV_tup step_nilCheck ncV_ptr ncV_rp ncV_fn ncV_mp step_build buildV step_buildSlice bsV step_index ixV_arr ixV_str step_append apB step_makeSlice msV_i step_makeFunc over step_len step_makeMap mmV step_mapUpdate step_insert muA_map muB_mp step_lookup lkA_map lkB_mp step_slice slcV_s slcV_sl slcV_ro cutB_some slObV_arr bound_none bound_some bndV_i lenB_str lenB_ro lenB_sl lenB_nil lenB_z ld_ptr ld_rp offV_ptr offV_rp idxV_ro idxV_sl unV_not unV_neg binV_int binV_str binV_eqlb binV_neqb intOp strOp St.put updL setOb St.ev toV St.lk cellsOf AM.valOf TK.agg stv fillV places TI.zero condT_true condT_false finS resL resSlot packV ren ren1 ren0 Value.cells builtinV appendV elemsOf keepT room_of wrap_in toIdx Ob.ren passed Function.comp_def take_len_map lenV touchOf hid tab1 tab2 tab3 tab4 tab5 tab6 tab7 tab8 tab9 tab10 tab11 tab12 tab13 tab14 tab15 tab16 tab17 tab18 tab19 tab20 tab21 tab22 tab23 tab24 tab25 tab26 tab28 tab29 tab30 tab31 tab32 tab33 tab34 tab35 tab36 tab37 tab38 tab39 tab40 tab41 tab42 tab43 tab44 tab45 tab46 tab48 tab49 tab50 tab51 tab52 tab53 tab54 tab55 tab56 tab57 tab58 tab59 tab60 tab61 tab62 tab63 tab64 tab65 tab67 tab68 tab69 tab70 tab71 tab72 tab73 tab74 tab75 tab76 tab77 tab78 tab79 tab80 tab81 tab82 tab83 tab84 tab85 tab86 tab89 tab90 tab91 tab92 tab93 tab94 tab95 tab96 tab98 tab99 tab100 tab101 tab102 tab103 tab104 tab105 tab106 tab107 tab108 tab109 tab113 tab114 tab115 tab116 tab117 tab118 tab119 tab120 ren_arr ren_gone ren_unborn ren_var ren_row insC coV funC step_convert cvV_i cvV_sl cvV_s cvK_slc cvE_u8 bytesOf
set_option linter.unusedSimpArgs false
set_option maxRecDepth 10000
set_option maxHeartbeats 4000000

theorem noQC (z : Int) (h : False) : QC prog 36 [.i .i64 z] [] (.s (Lib.itoa z)) [] := h.elim
theorem wrap_in2 (n : Int) (h1 : -9223372036854775808 ≤ n) (h2 : n ≤ 9223372036854775807) : IntKind.i64.wrap n = n := wrap_in n h1 h2
theorem wrap_tdiv {a : Int} (h : 0 < a) : (IntKind.i64.wrap (Int.tdiv a 10)).toNat < a.toNat := by
  have ht : Int.tdiv a 10 = a / 10 := Int.tdiv_eq_ediv_of_nonneg (by omega)
  rw [ht]
  simp only [IntKind.wrap, IntKind.bits, IntKind.signed]; simp; omega
theorem wrap_lt (a : Int) : (IntKind.i64.wrap a).toNat < 18446744073709551616 := by
  simp only [IntKind.wrap, IntKind.bits, IntKind.signed]; simp; omega
theorem wrap_ge (a : Int) : -9223372036854775808 ≤ IntKind.i64.wrap a := by
  simp only [IntKind.wrap, IntKind.bits, IntKind.signed]; simp; omega
theorem digs_dec {a : Int} {s : List UInt8} {x : UInt8} (h : 0 < a ∨ s = []) : (IntKind.i64.wrap (Int.tdiv a 10)).toNat + (if [x] ++ s = [] then 18446744073709551616 else 0) < a.toNat + (if s = [] then 18446744073709551616 else 0) := by
  rw [if_neg (by simp)]
  have := wrap_lt (Int.tdiv a 10)
  by_cases hs : s = []
  · rw [if_pos hs]; omega
  · rw [if_neg hs]
    have := wrap_tdiv (h.resolve_right hs)
    omega
theorem neg_dec {p0 : Int} (h1 : p0 < 0) (h2 : ¬ p0 = -9223372036854775808) : (if IntKind.i64.wrap (0 - p0) < -9223372036854775808 then 2 else if IntKind.i64.wrap (0 - p0) < 0 then 1 else 0) < (if p0 < -9223372036854775808 then 2 else if p0 < 0 then 1 else 0) := by
  have h3 := wrap_ge (0 - p0)
  by_cases hq : p0 < -9223372036854775808
  · rw [if_pos hq, if_neg (by omega)]; split <;> omega
  · rw [if_neg hq, if_pos h1, wrap_in _ (by omega) (by omega), if_neg (by omega), if_neg (by omega)]; omega
def digI (a : Int) (s : List UInt8) : Prop := 0 ≤ a ∧ a.toNat * 10 ^ s.length ≤ 10 ^ 19 ∧ s.length ≤ 20
theorem digs_inv {a : Int} {s : List UInt8} {x : UInt8} (h : 0 < a ∨ s = []) (hi : digI a s) : digI (IntKind.i64.wrap (Int.tdiv a 10)) ([x] ++ s) := by
  obtain ⟨h0, h1, h2⟩ := hi
  have hb : a.toNat ≤ 10 ^ 19 := Nat.le_trans (Nat.le_mul_of_pos_right _ (Nat.pow_pos (by decide))) h1
  have ht : Int.tdiv a 10 = a / 10 := Int.tdiv_eq_ediv_of_nonneg h0
  have hw : IntKind.i64.wrap (Int.tdiv a 10) = a / 10 := by rw [ht]; exact wrap_in _ (by omega) (by omega)
  have hl : s.length ≤ 19 := by
    refine Nat.le_of_not_lt fun hlt => ?_
    have hs : s ≠ [] := by rintro rfl; simp at hlt
    have ha : 0 < a := h.resolve_right hs
    have h3 : 10 ^ 20 ≤ 10 ^ s.length := Nat.pow_le_pow_right (by decide) hlt
    have h4 : 1 * 10 ^ s.length ≤ a.toNat * 10 ^ s.length := Nat.mul_le_mul_right _ (by omega)
    omega
  rw [hw]
  refine ⟨by omega, ?_, by simp; omega⟩
  have h5 : 10 ^ ([x] ++ s).length = 10 * 10 ^ s.length := by simp [Nat.pow_succ, Nat.mul_comm]
  have hd : (a / 10).toNat * 10 ≤ a.toNat := by omega
  rw [h5, ← Nat.mul_assoc]
  exact Nat.le_trans (Nat.mul_le_mul_right _ hd) h1
def F36_l6  (a6_0 : Int) (a6_1 : List UInt8) : (List UInt8) :=
  (if (0 < a6_0) ∨ (a6_1 = ([] : List UInt8)) then F36_l6 (IntKind.i64.wrap (Int.tdiv a6_0 10)) (([UInt8.ofNat (((IntKind.u8.wrap (IntKind.i64.wrap (48 + (Int.tmod a6_0 10))))).toNat)] : List UInt8) ++ a6_1) else a6_1)
  termination_by a6_0.toNat + (if a6_1 = [] then 18446744073709551616 else 0)
  decreasing_by rename_i h; exact digs_dec h
def F36 (p0 : Int) : (List UInt8) :=
  (if p0 < 0 then (if p0 = (-9223372036854775808) then ([45, 57, 50, 50, 51, 51, 55, 50, 48, 51, 54, 56, 53, 52, 55, 55, 53, 56, 48, 56] : List UInt8) else (([45] : List UInt8) ++ (Lib.itoa (IntKind.i64.wrap (0 - p0))))) else (bnd (F36_l6 p0 ([] : List UInt8)) fun (v6 : (List UInt8)) => v6))
set_option maxHeartbeats 4000000 in
theorem w_F36p (p0 : Int) (hz : inI64 p0) (hp : 0 ≤ p0) : QC prog 36 [.i .i64 p0] [] (.s (F36 p0)) [] := by
  refine QC.of_body tabOK func36 rfl (by kernel_rfl) ?_
  simp only [f36]
  generalize e : F36 p0 = R
  unfold F36 at e
  refine EV.seq ?_
  refine EV.regionG tabOK ?_ -- region 0
  simp -implicitDefEqProofs
  refine EV.seq ?_
  refine EV.seq ?_
  refine EV.regionG tabOK ?_ -- region 1
  simp -implicitDefEqProofs
  refine EV.condT ?_
  simp -implicitDefEqProofs
  refine condT_intro (fun k1 => ?_) (fun k1 => ?_)
  · try simp at k1
    replace e := pos_on e (by first | simpa using k1 | grind)
    refine EV.seq ?_
    refine EV.seq ?_
    refine EV.regionG tabOK ?_ -- region 2
    simp -implicitDefEqProofs
    refine EV.condT ?_
    simp -implicitDefEqProofs
    refine condT_intro (fun k2 => ?_) (fun k2 => ?_)
    · try simp at k2
      replace e := pos_on e (by first | simpa using k2 | grind)
      refine EV.seq ?_
      refine EV.regionG tabOK ?_ -- region 3
      simp -implicitDefEqProofs
      refine EV.ret ?_
      simp only [thenK_ret, blockK_ret, scopeK_ret, bodyK_ret]
      subst e
      refine Fin.pure0 ?_
      simp
    · try simp at k2
      replace e := neg_on e (by first | simpa using k2 | grind)
      refine EV.skip ?_
      simp only [thenK_normal, blockK_normal, scopeK_normal]
      refine EV.seq ?_
      have ct3 : (([45] : List UInt8)).length + ((Lib.itoa (IntKind.i64.wrap (0 - p0)))).length ≤ 9223372036854775807 := by (first | (exfalso; omega) | (have := (q6.2.2); simp; omega))
      try simp at ct3
      refine EV.regionG tabOK ?_ -- region 4
      simp -implicitDefEqProofs [ct3]
      refine callG_fun (noQC (IntKind.i64.wrap (0 - p0)) (by omega)) ?_ ?_
      · simp
      simp -implicitDefEqProofs [ct3]
      refine EV.ret ?_
      simp only [thenK_ret, blockK_ret, scopeK_ret, bodyK_ret]
      subst e
      refine Fin.pure0 ?_
      simp
  · try simp at k1
    replace e := neg_on e (by first | simpa using k1 | grind)
    refine EV.skip ?_
    simp only [thenK_normal, blockK_normal, scopeK_normal]
    refine EV.seq ?_
    refine EV.regionG tabOK ?_ -- region 5
    simp -implicitDefEqProofs
    refine EV.seq ?_
    obtain ⟨z6, e6, e⟩ := bnd_split e
    refine EV.nrm (fun v : { v : ((List UInt8)) × (Unit) // z6 = v.1 } => (fun (v6 : (List UInt8)) (g6 : Unit) => (⟨[.junk, .junk, .junk, .s v6, .junk, .junk, .junk, .junk, .junk, .junk, .junk, .junk, .junk, .junk, .junk, .junk, .junk, .junk, .junk, .junk, .junk, .junk, .junk, .junk, .junk, .junk, .junk, .junk, .junk], []⟩ : St)) v.1.1 v.1.2) ?_ ?_
    · skip
      refine EV.block ?_
      refine EV.loopB (fun x : { x : Int × (List UInt8) // F36_l6 x.1 x.2 = z6 ∧ (fun (a6_0 : Int) (a6_1 : List UInt8) => digI a6_0 a6_1) x.1 x.2 } => (fun (a6_0 : Int) (a6_1 : List UInt8) => (⟨[.i .i64 a6_0, .junk, .junk, .s a6_1, .junk, .junk, .junk, .junk, .junk, .junk, .junk, .junk, .junk, .junk, .junk, .junk, .junk, .junk, .junk, .junk, .junk, .junk, .junk, .junk, .junk, .junk, .junk, .junk, .junk], []⟩ : St)) x.1.1 x.1.2) (fun x => (fun (a6_0 : Int) (a6_1 : List UInt8) => a6_0.toNat + (if a6_1 = [] then 18446744073709551616 else 0)) x.1.1 x.1.2) ⟨(p0, ([] : List UInt8)), e6, by first | exact digs_inv (by first | assumption | grind) (by assumption) | (unfold digI; have := hz.2; simp; omega)⟩ ?_ ?_
      · skip
        try dsimp only
        try dsimp only
        refine Sub.cutE 0 [true, false, false, true, false, false, false, false, false, false, false, false, false, false, false, false, false, false, false, false, false, false, false, false, false, false, false, false, false] (by simp) ?_ ?_ <;> simp [List.range_succ, toIdx_range, passed, keepT, List.map_set]
      · skip
        rintro ⟨⟨a6_0, a6_1⟩, e6, q6⟩
        simp only at e6 ⊢
        try dsimp only at q6
        rw [F36_l6] at e6
        refine EV.seq ?_
        refine EV.seq ?_
        refine EV.regionG tabOK ?_ -- region 6
        simp -implicitDefEqProofs +contextual
        refine EV.condT ?_
        simp -implicitDefEqProofs
        refine condT_intro (fun k4 => ?_) (fun k4 => ?_)
        · try simp at k4
          replace e6 := pos_on e6 (by first | simpa using k4 | grind)
          refine EV.skip ?_
          simp only [thenK_normal, blockK_normal, scopeK_normal]
          refine EV.block ?_
          refine EV.seq ?_
          have ct5 : (([UInt8.ofNat (((IntKind.u8.wrap (IntKind.i64.wrap (48 + (Int.tmod a6_0 10))))).toNat)] : List UInt8)).length + (a6_1).length ≤ 9223372036854775807 := by (first | (exfalso; omega) | (have := (q6.2.2); simp; omega))
          try simp at ct5
          refine EV.regionG tabOK ?_ -- region 7
          simp -implicitDefEqProofs [ct5]
          refine EV.regionG tabOK ?_ -- region 8
          simp -implicitDefEqProofs [ct5]
          refine ⟨⟨((IntKind.i64.wrap (Int.tdiv a6_0 10)), (([UInt8.ofNat (((IntKind.u8.wrap (IntKind.i64.wrap (48 + (Int.tmod a6_0 10))))).toNat)] : List UInt8) ++ a6_1)), e6, by first | exact digs_inv (by first | assumption | grind) (by assumption) | (unfold digI; have := hz.2; simp; omega)⟩, by exact digs_dec (by first | assumption | grind), ?_⟩
          try dsimp only
          refine Sub.cutE 0 [true, false, false, true, false, false, false, false, false, false, false, false, false, false, false, false, false, false, false, false, false, false, false, false, false, false, false, false, false] (by simp) ?_ ?_ <;> simp [List.range_succ, toIdx_range, passed, keepT, List.map_set, ct5]
        · try simp at k4
          replace e6 := neg_on e6 (by first | simpa using k4 | grind)
          refine EV.exit ?_
          simp -implicitDefEqProofs
          refine ⟨⟨(a6_1, ()), e6.symm⟩, ?_⟩
          try dsimp only
          refine Sub.cutE 0 [false, false, false, true, false, false, false, false, false, false, false, false, false, false, false, false, false, false, false, false, false, false, false, false, false, false, false, false, false] (by simp) ?_ ?_ <;> simp [List.range_succ, toIdx_range, passed, keepT, List.map_set]
    · skip
      rintro ⟨⟨v6, g6⟩, e6⟩
      simp only [thenK_normal, blockK_normal, scopeK_normal, bodyK_normal]
      replace e := bnd_on e e6
      try dsimp only at e
      refine EV.seq ?_
      refine EV.regionG tabOK ?_ -- region 9
      simp -implicitDefEqProofs
      refine EV.ret ?_
      simp only [thenK_ret, blockK_ret, scopeK_ret, bodyK_ret]
      subst e
      refine Fin.pure0 ?_
      simp

theorem wrap_u8 {x : Int} (h0 : 0 ≤ x) (h : x < 256) : IntKind.u8.wrap x = x := by
  simp only [IntKind.wrap, IntKind.bits, IntKind.signed]; simp; omega
theorem digit_eq {a : Int} (h : 0 ≤ a) : UInt8.ofNat (IntKind.u8.wrap (IntKind.i64.wrap (48 + Int.tmod a 10))).toNat = UInt8.ofNat (48 + a.toNat % 10) := by
  have h1 : Int.tmod a 10 = a % 10 := Int.tmod_eq_emod_of_nonneg h
  rw [h1, wrap_in _ (by omega) (by omega), wrap_u8 (by omega) (by omega)]
  congr 1
  omega
theorem F36_l6_eq (m : Nat) : ∀ (a : Int) (s : List UInt8), a.toNat ≤ m → 0 ≤ a → a ≤ 9223372036854775807 → F36_l6 a s = if s = [] then Lib.decDigits a.toNat else if a = 0 then s else Lib.decDigits a.toNat ++ s := by
  induction m with
  | zero =>
    intro a s h1 h2 h3
    obtain rfl : a = 0 := by omega
    rw [F36_l6]
    by_cases hs : s = []
    · subst hs
      rw [if_pos (.inr rfl), F36_l6, if_neg (by simp), if_pos rfl, Lib.decDigits_one (by decide)]
      decide +kernel
    · rw [if_neg (by simp [hs]), if_neg hs, if_pos rfl]
  | succ m ih =>
    intro a s h1 h2 h3
    by_cases h0 : a = 0
    · subst h0
      exact ih 0 s (by simp) h2 h3
    · have ht : Int.tdiv a 10 = a / 10 := Int.tdiv_eq_ediv_of_nonneg h2
      rw [F36_l6, if_pos (.inl (by omega)), ht, wrap_in _ (by omega) (by omega), digit_eq h2, ih _ _ (by omega) (by omega) (by omega), if_neg (by simp)]
      by_cases hd : a / 10 = 0
      · rw [if_pos hd]
        have hdd : Lib.decDigits a.toNat = [UInt8.ofNat (48 + a.toNat)] := Lib.decDigits_one (by omega)
        have hm : a.toNat % 10 = a.toNat := by omega
        rw [hm, hdd]
        by_cases hs : s = []
        · simp [hs]
        · simp [hs, h0]
      · rw [if_neg hd]
        have hdd : Lib.decDigits a.toNat = Lib.decDigits (a / 10).toNat ++ [UInt8.ofNat (48 + a.toNat % 10)] := by
          rw [Lib.decDigits, dif_neg (by omega)]
          congr 2
          omega
        rw [hdd]
        by_cases hs : s = []
        · simp [hs]
        · simp [hs, h0]
theorem dd_step {u : Nat} (h : 10 ≤ u) : Lib.decDigits u = Lib.decDigits (u / 10) ++ [UInt8.ofNat (48 + u % 10)] := by rw [Lib.decDigits, dif_neg (by omega)]
theorem itoa_min : ([45, 57, 50, 50, 51, 51, 55, 50, 48, 51, 54, 56, 53, 52, 55, 55, 53, 56, 48, 56] : List UInt8) = Lib.itoa (-9223372036854775808) := by
  have h : Lib.itoa (-9223372036854775808) = 45 :: Lib.decDigits 9223372036854775808 := rfl
  rw [h]
  iterate 18 rw [dd_step (by omega)]
  rw [Lib.decDigits_one (by omega)]
  decide
theorem inI64_neg {z : Int} (hz : inI64 z) : inI64 (IntKind.i64.wrap (0 - z)) := by
  unfold inI64 at *
  have := wrap_ge (0 - z)
  have := wrap_lt (0 - z)
  by_cases h : z = -9223372036854775808
  · subst h; decide
  · rw [wrap_in _ (by omega) (by omega)]; omega
theorem F36_eq (z : Int) (hz : inI64 z) : F36 z = Lib.itoa z := by
  obtain ⟨h1, h2⟩ := hz
  unfold F36
  by_cases h : z < 0
  · rw [if_pos h]
    by_cases hm : z = -9223372036854775808
    · rw [if_pos hm, hm]; exact itoa_min
    · rw [if_neg hm, wrap_in _ (by omega) (by omega), Lib.itoa, Lib.itoa, if_neg (by omega), if_pos h]
      have : (0 - z).toNat = z.natAbs := by omega
      rw [this]; simp
  · rw [if_neg h]
    have := F36_l6_eq z.toNat z [] (Nat.le_refl _) (by omega) h2
    rw [bnd_eq, this, if_pos rfl, Lib.itoa, if_neg h]

theorem w36p (z : Int) (hz : inI64 z) (hp : 0 ≤ z) : QC prog 36 [.i .i64 z] [] (.s (Lib.itoa z)) [] := by rw [← F36_eq z hz]; exact w_F36p z hz hp
set_option maxHeartbeats 4000000 in
theorem w_F36 (p0 : Int) (hz : inI64 p0) : QC prog 36 [.i .i64 p0] [] (.s (F36 p0)) [] := by
  refine QC.of_body tabOK func36 rfl (by kernel_rfl) ?_
  simp only [f36]
  generalize e : F36 p0 = R
  unfold F36 at e
  refine EV.seq ?_
  refine EV.regionG tabOK ?_ -- region 0
  simp -implicitDefEqProofs
  refine EV.seq ?_
  refine EV.seq ?_
  refine EV.regionG tabOK ?_ -- region 1
  simp -implicitDefEqProofs
  refine EV.condT ?_
  simp -implicitDefEqProofs
  refine condT_intro (fun k1 => ?_) (fun k1 => ?_)
  · try simp at k1
    replace e := pos_on e (by first | simpa using k1 | grind)
    refine EV.seq ?_
    refine EV.seq ?_
    refine EV.regionG tabOK ?_ -- region 2
    simp -implicitDefEqProofs
    refine EV.condT ?_
    simp -implicitDefEqProofs
    refine condT_intro (fun k2 => ?_) (fun k2 => ?_)
    · try simp at k2
      replace e := pos_on e (by first | simpa using k2 | grind)
      refine EV.seq ?_
      refine EV.regionG tabOK ?_ -- region 3
      simp -implicitDefEqProofs
      refine EV.ret ?_
      simp only [thenK_ret, blockK_ret, scopeK_ret, bodyK_ret]
      subst e
      refine Fin.pure0 ?_
      simp
    · try simp at k2
      replace e := neg_on e (by first | simpa using k2 | grind)
      refine EV.skip ?_
      simp only [thenK_normal, blockK_normal, scopeK_normal]
      refine EV.seq ?_
      have ct3 : (([45] : List UInt8)).length + ((Lib.itoa (IntKind.i64.wrap (0 - p0)))).length ≤ 9223372036854775807 := by (first | (have := Lib.itoa_length_le _ (inI64_neg hz).1 (inI64_neg hz).2; simp at this ⊢; omega) | (have := (q6.2.2); simp; omega))
      try simp at ct3
      refine EV.regionG tabOK ?_ -- region 4
      simp -implicitDefEqProofs [ct3]
      refine callG_fun (w36p (IntKind.i64.wrap (0 - p0)) (inI64_neg hz) (by have := hz.1; rw [wrap_in _ (by omega) (by omega)]; omega)) ?_ ?_
      · simp
      simp -implicitDefEqProofs [ct3]
      refine EV.ret ?_
      simp only [thenK_ret, blockK_ret, scopeK_ret, bodyK_ret]
      subst e
      refine Fin.pure0 ?_
      simp
  · try simp at k1
    replace e := neg_on e (by first | simpa using k1 | grind)
    refine EV.skip ?_
    simp only [thenK_normal, blockK_normal, scopeK_normal]
    refine EV.seq ?_
    refine EV.regionG tabOK ?_ -- region 5
    simp -implicitDefEqProofs
    refine EV.seq ?_
    obtain ⟨z6, e6, e⟩ := bnd_split e
    refine EV.nrm (fun v : { v : ((List UInt8)) × (Unit) // z6 = v.1 } => (fun (v6 : (List UInt8)) (g6 : Unit) => (⟨[.junk, .junk, .junk, .s v6, .junk, .junk, .junk, .junk, .junk, .junk, .junk, .junk, .junk, .junk, .junk, .junk, .junk, .junk, .junk, .junk, .junk, .junk, .junk, .junk, .junk, .junk, .junk, .junk, .junk], []⟩ : St)) v.1.1 v.1.2) ?_ ?_
    · skip
      refine EV.block ?_
      refine EV.loopB (fun x : { x : Int × (List UInt8) // F36_l6 x.1 x.2 = z6 ∧ (fun (a6_0 : Int) (a6_1 : List UInt8) => digI a6_0 a6_1) x.1 x.2 } => (fun (a6_0 : Int) (a6_1 : List UInt8) => (⟨[.i .i64 a6_0, .junk, .junk, .s a6_1, .junk, .junk, .junk, .junk, .junk, .junk, .junk, .junk, .junk, .junk, .junk, .junk, .junk, .junk, .junk, .junk, .junk, .junk, .junk, .junk, .junk, .junk, .junk, .junk, .junk], []⟩ : St)) x.1.1 x.1.2) (fun x => (fun (a6_0 : Int) (a6_1 : List UInt8) => a6_0.toNat + (if a6_1 = [] then 18446744073709551616 else 0)) x.1.1 x.1.2) ⟨(p0, ([] : List UInt8)), e6, by first | exact digs_inv (by first | assumption | grind) (by assumption) | (unfold digI; have := hz.2; simp; omega)⟩ ?_ ?_
      · skip
        try dsimp only
        try dsimp only
        refine Sub.cutE 0 [true, false, false, true, false, false, false, false, false, false, false, false, false, false, false, false, false, false, false, false, false, false, false, false, false, false, false, false, false] (by simp) ?_ ?_ <;> simp [List.range_succ, toIdx_range, passed, keepT, List.map_set]
      · skip
        rintro ⟨⟨a6_0, a6_1⟩, e6, q6⟩
        simp only at e6 ⊢
        try dsimp only at q6
        rw [F36_l6] at e6
        refine EV.seq ?_
        refine EV.seq ?_
        refine EV.regionG tabOK ?_ -- region 6
        simp -implicitDefEqProofs +contextual
        refine EV.condT ?_
        simp -implicitDefEqProofs
        refine condT_intro (fun k4 => ?_) (fun k4 => ?_)
        · try simp at k4
          replace e6 := pos_on e6 (by first | simpa using k4 | grind)
          refine EV.skip ?_
          simp only [thenK_normal, blockK_normal, scopeK_normal]
          refine EV.block ?_
          refine EV.seq ?_
          have ct5 : (([UInt8.ofNat (((IntKind.u8.wrap (IntKind.i64.wrap (48 + (Int.tmod a6_0 10))))).toNat)] : List UInt8)).length + (a6_1).length ≤ 9223372036854775807 := by (first | (have := Lib.itoa_length_le _ (inI64_neg hz).1 (inI64_neg hz).2; simp at this ⊢; omega) | (have := (q6.2.2); simp; omega))
          try simp at ct5
          refine EV.regionG tabOK ?_ -- region 7
          simp -implicitDefEqProofs [ct5]
          refine EV.regionG tabOK ?_ -- region 8
          simp -implicitDefEqProofs [ct5]
          refine ⟨⟨((IntKind.i64.wrap (Int.tdiv a6_0 10)), (([UInt8.ofNat (((IntKind.u8.wrap (IntKind.i64.wrap (48 + (Int.tmod a6_0 10))))).toNat)] : List UInt8) ++ a6_1)), e6, by first | exact digs_inv (by first | assumption | grind) (by assumption) | (unfold digI; have := hz.2; simp; omega)⟩, by exact digs_dec (by first | assumption | grind), ?_⟩
          try dsimp only
          refine Sub.cutE 0 [true, false, false, true, false, false, false, false, false, false, false, false, false, false, false, false, false, false, false, false, false, false, false, false, false, false, false, false, false] (by simp) ?_ ?_ <;> simp [List.range_succ, toIdx_range, passed, keepT, List.map_set, ct5]
        · try simp at k4
          replace e6 := neg_on e6 (by first | simpa using k4 | grind)
          refine EV.exit ?_
          simp -implicitDefEqProofs
          refine ⟨⟨(a6_1, ()), e6.symm⟩, ?_⟩
          try dsimp only
          refine Sub.cutE 0 [false, false, false, true, false, false, false, false, false, false, false, false, false, false, false, false, false, false, false, false, false, false, false, false, false, false, false, false, false] (by simp) ?_ ?_ <;> simp [List.range_succ, toIdx_range, passed, keepT, List.map_set]
    · skip
      rintro ⟨⟨v6, g6⟩, e6⟩
      simp only [thenK_normal, blockK_normal, scopeK_normal, bodyK_normal]
      replace e := bnd_on e e6
      try dsimp only at e
      refine EV.seq ?_
      refine EV.regionG tabOK ?_ -- region 9
      simp -implicitDefEqProofs
      refine EV.ret ?_
      simp only [thenK_ret, blockK_ret, scopeK_ret, bodyK_ret]
      subst e
      refine Fin.pure0 ?_
      simp

theorem w36 (z : Int) (hz : inI64 z) : QC prog 36 [.i .i64 z] [] (.s (Lib.itoa z)) [] := by rw [← F36_eq z hz]; exact w_F36 z hz
end Go.Proofs.Tryd
end
section
namespace Go.Proofs.Tryd
open Go Go.AM
attribute [local simp] wpG_op wpG_nil contG_some wpG_guard guardG_v guardG_o guardG_tup gval pureOp stepG_if isPick pickG_pick pickB_b pickOK isCall step_move step_assign step_alloc step_box boxV_some step_load step_store step_binOp step_unOp step_fieldAddr faV step_indexAddr ixA_slc ixA_arr step_extract extV_tup step_nilCheck ncV_ptr ncV_rp ncV_fn ncV_mp step_build buildV step_buildSlice bsV step_index ixV_arr ixV_str step_append apB step_makeSlice msV_i step_makeFunc over step_len step_makeMap mmV step_mapUpdate step_insert muA_map muB_mp step_lookup lkA_map lkB_mp step_slice slcV_s slcV_sl slcV_ro cutB_some slObV_arr bound_none bound_some bndV_i lenB_str lenB_ro lenB_sl lenB_nil lenB_z ld_ptr ld_rp offV_ptr offV_rp idxV_ro idxV_sl unV_not unV_neg binV_int binV_str binV_eqlb binV_neqb intOp strOp St.put updL setOb St.ev toV St.lk cellsOf AM.valOf TK.agg stv fillV places TI.zero condT_true condT_false finS resL resSlot packV ren ren1 ren0 Value.cells builtinV appendV elemsOf keepT room_of wrap_in toIdx Ob.ren passed Function.comp_def take_len_map lenV touchOf hid tab1 tab2 tab3 tab4 tab5 tab6 tab7 tab8 tab9 tab10 tab11 tab12 tab13 tab14 tab15 tab16 tab17 tab18 tab19 tab20 tab21 tab22 tab23 tab24 tab25 tab26 tab28 tab29 tab30 tab31 tab32 tab33 tab34 tab35 tab36 tab37 tab38 tab39 tab40 tab41 tab42 tab43 tab44 tab45 tab46 tab48 tab49 tab50 tab51 tab52 tab53 tab54 tab55 tab56 tab57 tab58 tab59 tab60 tab61 tab62 tab63 tab64 tab65 tab67 tab68 tab69 tab70 tab71 tab72 tab73 tab74 tab75 tab76 tab77 tab78 tab79 tab80 tab81 tab82 tab83 tab84 tab85 tab86 tab89 tab90 tab91 tab92 tab93 tab94 tab95 tab96 tab98 tab99 tab100 tab101 tab102 tab103 tab104 tab105 tab106 tab107 tab108 tab109 tab113 tab114 tab115 tab116 tab117 tab118 tab119 tab120 ren_arr ren_gone ren_unborn ren_var ren_row insC coV funC step_convert cvV_i cvV_sl cvV_s cvK_slc cvE_u8 bytesOf progC
set_option linter.unusedSimpArgs false
set_option maxRecDepth 10000
set_option maxHeartbeats 4000000

def RngI (x : InsD) : Prop := inI64 x.op ∧ inI64 x.a ∧ inI64 x.b ∧ inI64 x.c ∧ ∀ z ∈ x.l, inI64 z
def RngC (c : CoD) : Prop := inI64 c.res ∧ inI64 c.can ∧ inI64 c.words ∧ inI64 c.args
structure SmallP (p : ProgD) : Prop where
  co : p.cos.length ≤ 60
  fu : p.funs.length ≤ 60
  ff : ∀ f ∈ p.funs, f.length ≤ 60
  ll : ∀ f ∈ p.funs, ∀ x ∈ f, x.l.length ≤ 60
structure RngP (p : ProgD) : Prop where
  co : ∀ c ∈ p.cos, RngC c
  fu : ∀ f ∈ p.funs, ∀ x ∈ f, RngI x
open Classical in
noncomputable def dig (z : Int) : List UInt8 := if inI64 z then Lib.itoa z else []
theorem dig_len (z : Int) : (dig z).length ≤ 21 := by
  unfold dig; split
  · rename_i h; exact Lib.itoa_length_le z h.1 h.2
  · simp
theorem dig_eq {z : Int} (h : inI64 z) : dig z = Lib.itoa z := if_pos h
theorem w_dig (z : Int) (hz : inI64 z) : QC prog 36 [.i .i64 z] [] (.s (dig z)) [] := by rw [dig_eq hz]; exact w36 z hz

noncomputable def F24_l3  : List CoD → (List UInt8) → (List UInt8)
  | [], a3_0 => a3_0
  | x3 :: xs3, a3_0 => F24_l3 xs3 (((((((((a3_0 ++ ([99, 111, 32] : List UInt8)) ++ (dig x3.res)) ++ ([32] : List UInt8)) ++ (dig x3.can)) ++ ([32] : List UInt8)) ++ (dig x3.words)) ++ ([32] : List UInt8)) ++ (dig x3.args)) ++ ([10] : List UInt8))
noncomputable def F24_l17  : List Int → (List UInt8) → (List UInt8)
  | [], a17_0 => a17_0
  | x17 :: xs17, a17_0 => F24_l17 xs17 ((a17_0 ++ ([32] : List UInt8)) ++ (dig x17))
noncomputable def F24_l12  : List InsD → (List UInt8) → (List UInt8)
  | [], a12_0 => a12_0
  | x12 :: xs12, a12_0 => (bnd (F24_l17 x12.l (((((((a12_0 ++ (dig x12.op)) ++ ([32] : List UInt8)) ++ (dig x12.a)) ++ ([32] : List UInt8)) ++ (dig x12.b)) ++ ([32] : List UInt8)) ++ (dig x12.c))) fun (v17 : (List UInt8)) => F24_l12 xs12 (v17 ++ ([10] : List UInt8)))
noncomputable def F24_l8  : List (List InsD) → (List UInt8) → (List UInt8)
  | [], a8_0 => a8_0
  | x8 :: xs8, a8_0 => (bnd (F24_l12 x8 (a8_0 ++ ([102, 117, 110, 10] : List UInt8))) fun (v12 : (List UInt8)) => F24_l8 xs8 v12)
noncomputable def F24 (p0 : ProgD) : (List UInt8) :=
  (bnd (F24_l3 p0.cos ([] : List UInt8)) fun (v3 : (List UInt8)) => (bnd (F24_l8 p0.funs v3) fun (v8 : (List UInt8)) => v8))
set_option maxHeartbeats 4000000 in
theorem w_F24 (p0 : ProgD) (hs : SmallP p0) (hr : RngP p0) : QC prog 24 [.agg [.ro 1 (p0.funs.map funC), .ro 5 (p0.cos.map coV)]] [] (.s (F24 p0)) [] := by
  refine QC.of_body tabOK func24 rfl (by kernel_rfl) ?_
  simp only [f24]
  generalize e : F24 p0 = R
  unfold F24 at e
  have hco := hs.co
  have hfu := hs.fu
  refine EV.seq ?_
  refine EV.regionG tabOK ?_ -- region 0
  simp -implicitDefEqProofs
  refine EV.seq ?_
  refine EV.regionG tabOK ?_ -- region 1
  simp -implicitDefEqProofs
  refine EV.seq ?_
  refine EV.seq ?_
  refine EV.regionG tabOK ?_ -- region 2
  simp -implicitDefEqProofs
  obtain ⟨z3, e3, e⟩ := bnd_split e
  refine EV.nrm (fun v : { v : ((List UInt8)) × (Unit) // z3 = v.1 ∧ (fun (v3 : (List UInt8)) => v3.length ≤ 12000) v.1 } => (fun (v3 : (List UInt8)) (g3 : Unit) => (⟨[.junk, .ptr 0 0 0 0, .junk, .s v3, .junk, .junk, .junk, .junk, .junk, .junk, .junk, .junk, .junk, .junk, .junk, .junk, .junk, .junk, .junk, .junk, .junk, .junk, .junk, .junk, .junk, .junk, .junk, .junk, .junk, .junk, .junk, .junk, .junk, .junk, .junk, .junk, .junk, .junk, .junk, .junk, .junk, .junk, .junk, .junk, .junk, .junk, .junk, .junk, .junk, .junk, .junk, .junk, .junk, .junk, .junk, .junk, .junk, .junk, .junk, .junk, .junk, .junk, .junk, .junk, .junk, .junk, .junk, .junk, .junk, .junk, .junk, .junk, .junk, .junk, .junk, .junk, .junk, .junk, .junk, .junk, .junk, .junk, .junk, .junk, .junk, .junk, .junk, .junk, .junk, .junk, .junk, .junk, .junk, .junk, .junk, .junk, .junk, .junk, .junk, .junk, .junk, .junk, .junk, .junk, .junk, .junk, .junk, .junk, .junk, .junk], [.arr 0 2 [[.ro 1 (p0.funs.map funC), .ro 5 (p0.cos.map coV)]]]⟩ : St)) v.1.1 v.1.2) ?_ ?_
  · skip
    refine EV.block ?_
    refine EV.loopB (fun x : { x : Nat × (List UInt8) // x.1 ≤ p0.cos.length ∧ F24_l3 (p0.cos.drop x.1) x.2 = z3 ∧ (fun (j3 : Nat) (a3_0 : List UInt8) => a3_0.length ≤ j3 * 200) x.1 x.2 } => (fun (j3 : Nat) (a3_0 : List UInt8) => (⟨[.junk, .ptr 0 0 0 0, .junk, .s a3_0, .i .i64 (j3 : Int), .junk, .junk, .junk, .junk, .junk, .junk, .junk, .junk, .junk, .junk, .junk, .junk, .junk, .junk, .junk, .junk, .junk, .junk, .junk, .junk, .junk, .junk, .junk, .junk, .junk, .junk, .junk, .junk, .junk, .junk, .junk, .junk, .junk, .junk, .junk, .junk, .junk, .junk, .junk, .junk, .junk, .junk, .junk, .junk, .junk, .junk, .junk, .junk, .junk, .junk, .junk, .junk, .junk, .junk, .junk, .junk, .junk, .junk, .junk, .junk, .junk, .junk, .junk, .junk, .junk, .junk, .junk, .junk, .junk, .junk, .junk, .junk, .junk, .junk, .junk, .junk, .junk, .junk, .junk, .junk, .junk, .junk, .junk, .junk, .junk, .junk, .junk, .junk, .junk, .junk, .junk, .junk, .junk, .junk, .junk, .junk, .junk, .junk, .junk, .junk, .junk, .junk, .junk, .junk, .junk], [.arr 0 2 [[.ro 1 (p0.funs.map funC), .ro 5 (p0.cos.map coV)]]]⟩ : St)) x.1.1 x.1.2) (fun x => p0.cos.length - x.1.1) ⟨(0, ([] : List UInt8)), Nat.zero_le _, e3, by ((try dsimp only); first | omega | assumption | (simp; done) | (simp; assumption) | (simp; omega) | (simp at *; omega) | simp_all)⟩ ?_ ?_
    · skip
      try dsimp only
      try dsimp only
      refine Sub.cutE 1 [false, true, false, true, true, false, false, false, false, false, false, false, false, false, false, false, false, false, false, false, false, false, false, false, false, false, false, false, false, false, false, false, false, false, false, false, false, false, false, false, false, false, false, false, false, false, false, false, false, false, false, false, false, false, false, false, false, false, false, false, false, false, false, false, false, false, false, false, false, false, false, false, false, false, false, false, false, false, false, false, false, false, false, false, false, false, false, false, false, false, false, false, false, false, false, false, false, false, false, false, false, false, false, false, false, false, false, false, false, false] (by simp) ?_ ?_ <;> simp [List.range_succ, toIdx_range, passed, keepT, List.map_set]
    · skip
      rintro ⟨⟨j3, a3_0⟩, hi3, e3, q3⟩
      simp only at hi3 e3 ⊢
      try dsimp only at q3
      refine EV.seq ?_
      refine EV.seq ?_
      refine EV.regionG tabOK ?_ -- region 3
      simp -implicitDefEqProofs
      refine EV.room 12 (by rfl) (fun mj3 => ?_)
      simp at mj3
      refine EV.condT ?_
      simp -implicitDefEqProofs
      refine condT_intro (fun k1 => ?_) (fun k1 => ?_)
      · try simp at k1
        have u1 : j3 < p0.cos.length := by omega
        obtain ⟨x3, hx3⟩ : ∃ z, p0.cos[j3] = z := ⟨_, rfl⟩
        have mx3 : x3 ∈ p0.cos := by rw [← hx3]; exact List.getElem_mem _
        obtain ⟨o1, o2, o3, o4⟩ := hr.co x3 mx3
        rw [List.drop_eq_getElem_cons u1, hx3, F24_l3] at e3
        refine EV.skip ?_
        simp only [thenK_normal, blockK_normal, scopeK_normal]
        refine EV.seq ?_
        refine EV.block ?_
        refine EV.seq ?_
        refine EV.regionG tabOK ?_ -- region 5
        simp -implicitDefEqProofs [k1, u1, hx3]
        have ct2 : (a3_0).length + (([99, 111, 32] : List UInt8)).length ≤ 9223372036854775807 := by (first | omega | (simp; omega))
        try simp at ct2
        have := dig_len x3.res
        have ct3 : ((a3_0 ++ ([99, 111, 32] : List UInt8))).length + ((dig x3.res)).length ≤ 9223372036854775807 := by (first | omega | (simp; omega))
        try simp at ct3
        have ct4 : (((a3_0 ++ ([99, 111, 32] : List UInt8)) ++ (dig x3.res))).length + (([32] : List UInt8)).length ≤ 9223372036854775807 := by (first | omega | (simp; omega))
        try simp at ct4
        have := dig_len x3.can
        have ct5 : ((((a3_0 ++ ([99, 111, 32] : List UInt8)) ++ (dig x3.res)) ++ ([32] : List UInt8))).length + ((dig x3.can)).length ≤ 9223372036854775807 := by (first | omega | (simp; omega))
        try simp at ct5
        have ct6 : (((((a3_0 ++ ([99, 111, 32] : List UInt8)) ++ (dig x3.res)) ++ ([32] : List UInt8)) ++ (dig x3.can))).length + (([32] : List UInt8)).length ≤ 9223372036854775807 := by (first | omega | (simp; omega))
        try simp at ct6
        have := dig_len x3.words
        have ct7 : ((((((a3_0 ++ ([99, 111, 32] : List UInt8)) ++ (dig x3.res)) ++ ([32] : List UInt8)) ++ (dig x3.can)) ++ ([32] : List UInt8))).length + ((dig x3.words)).length ≤ 9223372036854775807 := by (first | omega | (simp; omega))
        try simp at ct7
        have ct8 : (((((((a3_0 ++ ([99, 111, 32] : List UInt8)) ++ (dig x3.res)) ++ ([32] : List UInt8)) ++ (dig x3.can)) ++ ([32] : List UInt8)) ++ (dig x3.words))).length + (([32] : List UInt8)).length ≤ 9223372036854775807 := by (first | omega | (simp; omega))
        try simp at ct8
        have := dig_len x3.args
        have ct9 : ((((((((a3_0 ++ ([99, 111, 32] : List UInt8)) ++ (dig x3.res)) ++ ([32] : List UInt8)) ++ (dig x3.can)) ++ ([32] : List UInt8)) ++ (dig x3.words)) ++ ([32] : List UInt8))).length + ((dig x3.args)).length ≤ 9223372036854775807 := by (first | omega | (simp; omega))
        try simp at ct9
        have ct10 : (((((((((a3_0 ++ ([99, 111, 32] : List UInt8)) ++ (dig x3.res)) ++ ([32] : List UInt8)) ++ (dig x3.can)) ++ ([32] : List UInt8)) ++ (dig x3.words)) ++ ([32] : List UInt8)) ++ (dig x3.args))).length + (([10] : List UInt8)).length ≤ 9223372036854775807 := by (first | omega | (simp; omega))
        try simp at ct10
        refine EV.drawG tabOK mixedOK ?_ -- region 6
        simp -implicitDefEqProofs [k1, u1, hx3, ct2, ct3, ct4, ct5, ct6, ct7, ct8, ct9, ct10]
        refine callG_fun (w_dig x3.res (by first | assumption | grind)) ?_ ?_
        · simp
        simp -implicitDefEqProofs [k1, u1, hx3, ct2, ct3, ct4, ct5, ct6, ct7, ct8, ct9, ct10]
        refine callG_fun (w_dig x3.can (by first | assumption | grind)) ?_ ?_
        · simp
        simp -implicitDefEqProofs [k1, u1, hx3, ct2, ct3, ct4, ct5, ct6, ct7, ct8, ct9, ct10]
        refine callG_fun (w_dig x3.words (by first | assumption | grind)) ?_ ?_
        · simp
        simp -implicitDefEqProofs [k1, u1, hx3, ct2, ct3, ct4, ct5, ct6, ct7, ct8, ct9, ct10]
        refine callG_fun (w_dig x3.args (by first | assumption | grind)) ?_ ?_
        · simp
        simp -implicitDefEqProofs [k1, u1, hx3, ct2, ct3, ct4, ct5, ct6, ct7, ct8, ct9, ct10]
        refine And.intro ?_ ?_
        · first | decide +kernel | (simp -implicitDefEqProofs; decide +kernel) | (split <;> decide +kernel)
        try simp -implicitDefEqProofs
        refine EV.regionG tabOK ?_ -- region 4
        simp -implicitDefEqProofs [k1, u1, hx3, ct2, ct3, ct4, ct5, ct6, ct7, ct8, ct9, ct10]
        have w3 : IntKind.i64.wrap ((j3 : Int) + 1) = (j3 : Int) + 1 := wrap_in _ (by omega) (by omega)
        refine ⟨⟨(j3 + 1, (((((((((a3_0 ++ ([99, 111, 32] : List UInt8)) ++ (dig x3.res)) ++ ([32] : List UInt8)) ++ (dig x3.can)) ++ ([32] : List UInt8)) ++ (dig x3.words)) ++ ([32] : List UInt8)) ++ (dig x3.args)) ++ ([10] : List UInt8))), by omega, e3, by ((try dsimp only); first | omega | assumption | (simp; done) | (simp; assumption) | (simp; omega) | (simp at *; omega) | simp_all)⟩, by dsimp only; omega, ?_⟩
        try dsimp only
        refine Sub.cutE 1 [false, true, false, true, true, false, false, false, false, false, false, false, false, false, false, false, false, false, false, false, false, false, false, false, false, false, false, false, false, false, false, false, false, false, false, false, false, false, false, false, false, false, false, false, false, false, false, false, false, false, false, false, false, false, false, false, false, false, false, false, false, false, false, false, false, false, false, false, false, false, false, false, false, false, false, false, false, false, false, false, false, false, false, false, false, false, false, false, false, false, false, false, false, false, false, false, false, false, false, false, false, false, false, false, false, false, false, false, false, false] (by simp) ?_ ?_ <;> simp [List.range_succ, toIdx_range, passed, keepT, List.map_set, k1, u1, hx3, ct2, ct3, ct4, ct5, ct6, ct7, ct8, ct9, ct10, w3]
      · try simp at k1
        have d1 : p0.cos.drop j3 = [] := List.drop_eq_nil_of_le (by omega)
        rw [d1, F24_l3] at e3
        refine EV.exit ?_
        simp -implicitDefEqProofs
        refine ⟨⟨(a3_0, ()), e3.symm, by ((try dsimp only); first | omega | assumption | (simp; done) | (simp; assumption) | (simp; omega) | (simp at *; omega) | simp_all)⟩, ?_⟩
        try dsimp only
        refine Sub.cutE 1 [false, true, false, true, false, false, false, false, false, false, false, false, false, false, false, false, false, false, false, false, false, false, false, false, false, false, false, false, false, false, false, false, false, false, false, false, false, false, false, false, false, false, false, false, false, false, false, false, false, false, false, false, false, false, false, false, false, false, false, false, false, false, false, false, false, false, false, false, false, false, false, false, false, false, false, false, false, false, false, false, false, false, false, false, false, false, false, false, false, false, false, false, false, false, false, false, false, false, false, false, false, false, false, false, false, false, false, false, false, false] (by simp) ?_ ?_ <;> simp [List.range_succ, toIdx_range, passed, keepT, List.map_set]
  · skip
    rintro ⟨⟨v3, g3⟩, e3, p3⟩
    simp only [thenK_normal, blockK_normal, scopeK_normal, bodyK_normal]
    try dsimp only at p3
    replace e := bnd_on e e3
    try dsimp only at e
    refine EV.seq ?_
    refine EV.seq ?_
    refine EV.regionG tabOK ?_ -- region 7
    simp -implicitDefEqProofs
    obtain ⟨z8, e8, e⟩ := bnd_split e
    refine EV.nrm (fun v : { v : ((List UInt8)) × (Unit) // z8 = v.1 ∧ (fun (v8 : (List UInt8)) => v8.length ≤ 6100000) v.1 } => (fun (v8 : (List UInt8)) (g8 : Unit) => (⟨[.junk, .junk, .junk, .s v8, .junk, .junk, .junk, .junk, .junk, .junk, .junk, .junk, .junk, .junk, .junk, .junk, .junk, .junk, .junk, .junk, .junk, .junk, .junk, .junk, .junk, .junk, .junk, .junk, .junk, .junk, .junk, .junk, .junk, .junk, .junk, .junk, .junk, .junk, .junk, .junk, .junk, .junk, .junk, .junk, .junk, .junk, .junk, .junk, .junk, .junk, .junk, .junk, .junk, .junk, .junk, .junk, .junk, .junk, .junk, .junk, .junk, .junk, .junk, .junk, .junk, .junk, .junk, .junk, .junk, .junk, .junk, .junk, .junk, .junk, .junk, .junk, .junk, .junk, .junk, .junk, .junk, .junk, .junk, .junk, .junk, .junk, .junk, .junk, .junk, .junk, .junk, .junk, .junk, .junk, .junk, .junk, .junk, .junk, .junk, .junk, .junk, .junk, .junk, .junk, .junk, .junk, .junk, .junk, .junk, .junk], []⟩ : St)) v.1.1 v.1.2) ?_ ?_
    · skip
      refine EV.block ?_
      refine EV.loopB (fun x : { x : Nat × (List UInt8) // x.1 ≤ p0.funs.length ∧ F24_l8 (p0.funs.drop x.1) x.2 = z8 ∧ (fun (j8 : Nat) (a8_0 : List UInt8) => a8_0.length ≤ 12000 + j8 * 100000) x.1 x.2 } => (fun (j8 : Nat) (a8_0 : List UInt8) => (⟨[.junk, .ptr 0 0 0 0, .junk, .s a8_0, .junk, .junk, .i .i64 (j8 : Int), .junk, .junk, .junk, .junk, .junk, .junk, .junk, .junk, .junk, .junk, .junk, .junk, .junk, .junk, .junk, .junk, .junk, .junk, .junk, .junk, .junk, .junk, .junk, .junk, .junk, .junk, .junk, .junk, .junk, .junk, .junk, .junk, .junk, .junk, .junk, .junk, .junk, .junk, .junk, .junk, .junk, .junk, .junk, .junk, .junk, .junk, .junk, .junk, .junk, .junk, .junk, .junk, .junk, .junk, .junk, .junk, .junk, .junk, .junk, .junk, .junk, .junk, .junk, .junk, .junk, .junk, .junk, .junk, .junk, .junk, .junk, .junk, .junk, .junk, .junk, .junk, .junk, .junk, .junk, .junk, .junk, .junk, .junk, .junk, .junk, .junk, .junk, .junk, .junk, .junk, .junk, .junk, .junk, .junk, .junk, .junk, .junk, .junk, .junk, .junk, .junk, .junk, .junk], [.arr 0 2 [[.ro 1 (p0.funs.map funC), .ro 5 (p0.cos.map coV)]]]⟩ : St)) x.1.1 x.1.2) (fun x => p0.funs.length - x.1.1) ⟨(0, v3), Nat.zero_le _, e8, by ((try dsimp only); first | omega | assumption | (simp; done) | (simp; assumption) | (simp; omega) | (simp at *; omega) | simp_all)⟩ ?_ ?_
      · skip
        try dsimp only
        try dsimp only
        refine Sub.cutE 1 [false, true, false, true, false, false, true, false, false, false, false, false, false, false, false, false, false, false, false, false, false, false, false, false, false, false, false, false, false, false, false, false, false, false, false, false, false, false, false, false, false, false, false, false, false, false, false, false, false, false, false, false, false, false, false, false, false, false, false, false, false, false, false, false, false, false, false, false, false, false, false, false, false, false, false, false, false, false, false, false, false, false, false, false, false, false, false, false, false, false, false, false, false, false, false, false, false, false, false, false, false, false, false, false, false, false, false, false, false, false] (by simp) ?_ ?_ <;> simp [List.range_succ, toIdx_range, passed, keepT, List.map_set]
      · skip
        rintro ⟨⟨j8, a8_0⟩, hi8, e8, q8⟩
        simp only at hi8 e8 ⊢
        try dsimp only at q8
        refine EV.seq ?_
        refine EV.seq ?_
        refine EV.regionG tabOK ?_ -- region 8
        simp -implicitDefEqProofs
        refine EV.room 46 (by rfl) (fun mj8 => ?_)
        simp at mj8
        refine EV.condT ?_
        simp -implicitDefEqProofs
        refine condT_intro (fun k11 => ?_) (fun k11 => ?_)
        · try simp at k11
          have u11 : j8 < p0.funs.length := by omega
          obtain ⟨x8, hx8⟩ : ∃ z, p0.funs[j8] = z := ⟨_, rfl⟩
          have mx8 : x8 ∈ p0.funs := by rw [← hx8]; exact List.getElem_mem _
          have hf8 := hs.ff x8 mx8
          rw [List.drop_eq_getElem_cons u11, hx8, F24_l8] at e8
          refine EV.skip ?_
          simp only [thenK_normal, blockK_normal, scopeK_normal]
          refine EV.seq ?_
          refine EV.block ?_
          refine EV.seq ?_
          have ct12 : (a8_0).length + (([102, 117, 110, 10] : List UInt8)).length ≤ 9223372036854775807 := by (first | omega | (simp; omega))
          try simp at ct12
          refine EV.regionG tabOK ?_ -- region 10
          simp -implicitDefEqProofs [k11, u11, hx8, ct12]
          refine EV.seq ?_
          refine EV.regionG tabOK ?_ -- region 11
          simp -implicitDefEqProofs [k11, u11, hx8, ct12]
          obtain ⟨z12, e12, e8⟩ := bnd_split e8
          refine EV.nrm (fun v : { v : ((List UInt8)) × (Unit) // z12 = v.1 ∧ (fun (v12 : (List UInt8)) => v12.length ≤ a8_0.length + 100000) v.1 } => (fun (v12 : (List UInt8)) (g12 : Unit) => (⟨[.junk, .ptr 0 0 0 0, .junk, .s v12, .junk, .junk, .i .i64 (j8 : Int), .junk, .junk, .junk, .junk, .junk, .junk, .junk, .junk, .junk, .junk, .junk, .junk, .junk, .junk, .junk, .junk, .junk, .junk, .junk, .junk, .junk, .junk, .junk, .junk, .junk, .junk, .junk, .junk, .junk, .junk, .junk, .junk, .junk, .junk, .junk, .junk, .junk, .junk, .junk, .junk, .junk, .junk, .junk, .junk, .junk, .junk, .junk, .junk, .junk, .junk, .junk, .junk, .junk, .junk, .junk, .junk, .junk, .junk, .junk, .junk, .junk, .junk, .junk, .junk, .junk, .junk, .junk, .junk, .junk, .junk, .junk, .junk, .junk, .junk, .junk, .junk, .junk, .junk, .junk, .junk, .junk, .junk, .junk, .junk, .junk, .junk, .junk, .junk, .junk, .junk, .junk, .junk, .junk, .junk, .junk, .junk, .junk, .junk, .junk, .junk, .junk, .junk, .junk], [.arr 0 2 [[.ro 1 (p0.funs.map funC), .ro 5 (p0.cos.map coV)]]]⟩ : St)) v.1.1 v.1.2) ?_ ?_
          · skip
            refine EV.block ?_
            refine EV.loopB (fun x : { x : Nat × (List UInt8) // x.1 ≤ x8.length ∧ F24_l12 (x8.drop x.1) x.2 = z12 ∧ (fun (j12 : Nat) (a12_0 : List UInt8) => a12_0.length ≤ a8_0.length + 10 + j12 * 1600) x.1 x.2 } => (fun (j12 : Nat) (a12_0 : List UInt8) => (⟨[.junk, .ptr 0 0 0 0, .junk, .s a12_0, .junk, .junk, .i .i64 (j8 : Int), .i .i64 (j12 : Int), .junk, .junk, .junk, .junk, .junk, .junk, .junk, .junk, .junk, .junk, .junk, .junk, .junk, .junk, .junk, .junk, .junk, .junk, .junk, .junk, .junk, .junk, .junk, .junk, .junk, .junk, .junk, .junk, .junk, .junk, .junk, .junk, .junk, .junk, .junk, .junk, .junk, .junk, .junk, .junk, .junk, .junk, .junk, .junk, .junk, .junk, .junk, .junk, .junk, .junk, .junk, .junk, .junk, .junk, .junk, .junk, .junk, .junk, .junk, .junk, .junk, .junk, .junk, .junk, .junk, .junk, .junk, .junk, .junk, .junk, .junk, .junk, .junk, .junk, .junk, .junk, .junk, .junk, .junk, .junk, .junk, .junk, .junk, .junk, .junk, .junk, .junk, .junk, .junk, .junk, .junk, .junk, .junk, .junk, .junk, .junk, .junk, .junk, .junk, .junk, .junk, .junk], [.arr 0 2 [[.ro 1 (p0.funs.map funC), .ro 5 (p0.cos.map coV)]]]⟩ : St)) x.1.1 x.1.2) (fun x => x8.length - x.1.1) ⟨(0, (a8_0 ++ ([102, 117, 110, 10] : List UInt8))), Nat.zero_le _, e12, by ((try dsimp only); first | omega | assumption | (simp; done) | (simp; assumption) | (simp; omega) | (simp at *; omega) | simp_all)⟩ ?_ ?_
            · skip
              try dsimp only
              try dsimp only
              refine Sub.cutE 1 [false, true, false, true, false, false, true, true, false, false, false, false, false, false, false, false, false, false, false, false, false, false, false, false, false, false, false, false, false, false, false, false, false, false, false, false, false, false, false, false, false, false, false, false, false, false, false, false, false, false, false, false, false, false, false, false, false, false, false, false, false, false, false, false, false, false, false, false, false, false, false, false, false, false, false, false, false, false, false, false, false, false, false, false, false, false, false, false, false, false, false, false, false, false, false, false, false, false, false, false, false, false, false, false, false, false, false, false, false, false] (by simp) ?_ ?_ <;> simp [List.range_succ, toIdx_range, passed, keepT, List.map_set, k11, u11, hx8, ct12]
            · skip
              rintro ⟨⟨j12, a12_0⟩, hi12, e12, q12⟩
              simp only at hi12 e12 ⊢
              try dsimp only at q12
              refine EV.seq ?_
              refine EV.seq ?_
              refine EV.regionG tabOK ?_ -- region 12
              simp -implicitDefEqProofs [k11, u11, hx8, ct12]
              refine EV.room 58 (by rfl) (fun mj12 => ?_)
              simp at mj12
              refine EV.condT ?_
              simp -implicitDefEqProofs [k11, u11, hx8, ct12]
              refine condT_intro (fun k13 => ?_) (fun k13 => ?_)
              · try simp at k13
                have u13 : j12 < x8.length := by omega
                obtain ⟨x12, hx12⟩ : ∃ z, x8[j12] = z := ⟨_, rfl⟩
                have mx12 : x12 ∈ x8 := by rw [← hx12]; exact List.getElem_mem _
                have hl12 := hs.ll x8 mx8 x12 mx12
                obtain ⟨o1, o2, o3, o4, o5⟩ := hr.fu x8 mx8 x12 mx12
                rw [List.drop_eq_getElem_cons u13, hx12, F24_l12] at e12
                refine EV.skip ?_
                simp only [thenK_normal, blockK_normal, scopeK_normal]
                refine EV.seq ?_
                refine EV.block ?_
                refine EV.seq ?_
                refine EV.regionG tabOK ?_ -- region 14
                simp -implicitDefEqProofs [k11, u11, hx8, ct12, k13, u13, hx12]
                refine EV.seq ?_
                have := dig_len x12.op
                have ct14 : (a12_0).length + ((dig x12.op)).length ≤ 9223372036854775807 := by (first | omega | (simp; omega))
                try simp at ct14
                have ct15 : ((a12_0 ++ (dig x12.op))).length + (([32] : List UInt8)).length ≤ 9223372036854775807 := by (first | omega | (simp; omega))
                try simp at ct15
                have := dig_len x12.a
                have ct16 : (((a12_0 ++ (dig x12.op)) ++ ([32] : List UInt8))).length + ((dig x12.a)).length ≤ 9223372036854775807 := by (first | omega | (simp; omega))
                try simp at ct16
                have ct17 : ((((a12_0 ++ (dig x12.op)) ++ ([32] : List UInt8)) ++ (dig x12.a))).length + (([32] : List UInt8)).length ≤ 9223372036854775807 := by (first | omega | (simp; omega))
                try simp at ct17
                have := dig_len x12.b
                have ct18 : (((((a12_0 ++ (dig x12.op)) ++ ([32] : List UInt8)) ++ (dig x12.a)) ++ ([32] : List UInt8))).length + ((dig x12.b)).length ≤ 9223372036854775807 := by (first | omega | (simp; omega))
                try simp at ct18
                have ct19 : ((((((a12_0 ++ (dig x12.op)) ++ ([32] : List UInt8)) ++ (dig x12.a)) ++ ([32] : List UInt8)) ++ (dig x12.b))).length + (([32] : List UInt8)).length ≤ 9223372036854775807 := by (first | omega | (simp; omega))
                try simp at ct19
                have := dig_len x12.c
                have ct20 : (((((((a12_0 ++ (dig x12.op)) ++ ([32] : List UInt8)) ++ (dig x12.a)) ++ ([32] : List UInt8)) ++ (dig x12.b)) ++ ([32] : List UInt8))).length + ((dig x12.c)).length ≤ 9223372036854775807 := by (first | omega | (simp; omega))
                try simp at ct20
                refine EV.drawG tabOK mixedOK ?_ -- region 15
                simp -implicitDefEqProofs [k11, u11, hx8, ct12, k13, u13, hx12, ct14, ct15, ct16, ct17, ct18, ct19, ct20]
                refine callG_fun (w_dig x12.op (by first | assumption | grind)) ?_ ?_
                · simp
                simp -implicitDefEqProofs [k11, u11, hx8, ct12, k13, u13, hx12, ct14, ct15, ct16, ct17, ct18, ct19, ct20]
                refine callG_fun (w_dig x12.a (by first | assumption | grind)) ?_ ?_
                · simp
                simp -implicitDefEqProofs [k11, u11, hx8, ct12, k13, u13, hx12, ct14, ct15, ct16, ct17, ct18, ct19, ct20]
                refine callG_fun (w_dig x12.b (by first | assumption | grind)) ?_ ?_
                · simp
                simp -implicitDefEqProofs [k11, u11, hx8, ct12, k13, u13, hx12, ct14, ct15, ct16, ct17, ct18, ct19, ct20]
                refine callG_fun (w_dig x12.c (by first | assumption | grind)) ?_ ?_
                · simp
                simp -implicitDefEqProofs [k11, u11, hx8, ct12, k13, u13, hx12, ct14, ct15, ct16, ct17, ct18, ct19, ct20]
                refine And.intro ?_ ?_
                · first | decide +kernel | (simp -implicitDefEqProofs; decide +kernel) | (split <;> decide +kernel)
                try simp -implicitDefEqProofs
                refine EV.seq ?_
                refine EV.seq ?_
                refine EV.regionG tabOK ?_ -- region 16
                simp -implicitDefEqProofs [k11, u11, hx8, ct12, k13, u13, hx12, ct14, ct15, ct16, ct17, ct18, ct19, ct20]
                obtain ⟨z17, e17, e12⟩ := bnd_split e12
                refine EV.nrm (fun v : { v : ((List UInt8)) × (Unit) // z17 = v.1 ∧ (fun (v17 : (List UInt8)) => v17.length ≤ a12_0.length + 1500) v.1 } => (fun (v17 : (List UInt8)) (g17 : Unit) => (⟨[.junk, .ptr 0 0 0 0, .junk, .s v17, .junk, .junk, .i .i64 (j8 : Int), .i .i64 (j12 : Int), .junk, .junk, .junk, .junk, .junk, .junk, .junk, .junk, .junk, .junk, .junk, .junk, .junk, .junk, .junk, .junk, .junk, .junk, .junk, .junk, .junk, .junk, .junk, .junk, .junk, .junk, .junk, .junk, .junk, .junk, .junk, .junk, .junk, .junk, .junk, .junk, .junk, .junk, .junk, .junk, .junk, .junk, .junk, .junk, .junk, .junk, .junk, .junk, .junk, .junk, .junk, .junk, .junk, .junk, .junk, .junk, .junk, .junk, .junk, .junk, .junk, .junk, .junk, .junk, .junk, .junk, .junk, .junk, .junk, .junk, .junk, .junk, .junk, .junk, .junk, .junk, .junk, .junk, .junk, .junk, .junk, .junk, .junk, .junk, .junk, .junk, .junk, .junk, .junk, .junk, .junk, .junk, .junk, .junk, .junk, .junk, .junk, .junk, .junk, .junk, .junk, .junk], [.arr 0 2 [[.ro 1 (p0.funs.map funC), .ro 5 (p0.cos.map coV)]]]⟩ : St)) v.1.1 v.1.2) ?_ ?_
                · skip
                  refine EV.block ?_
                  refine EV.loopB (fun x : { x : Nat × (List UInt8) // x.1 ≤ x12.l.length ∧ F24_l17 (x12.l.drop x.1) x.2 = z17 ∧ (fun (j17 : Nat) (a17_0 : List UInt8) => a17_0.length ≤ a12_0.length + 100 + j17 * 22) x.1 x.2 } => (fun (j17 : Nat) (a17_0 : List UInt8) => (⟨[.junk, .ptr 0 0 0 0, .junk, .s a17_0, .junk, .junk, .i .i64 (j8 : Int), .i .i64 (j12 : Int), .ptr 1 0 0 0, .i .i64 (j17 : Int), .junk, .junk, .junk, .junk, .junk, .junk, .junk, .junk, .junk, .junk, .junk, .junk, .junk, .junk, .junk, .junk, .junk, .junk, .junk, .junk, .junk, .junk, .junk, .junk, .junk, .junk, .junk, .junk, .junk, .junk, .junk, .junk, .junk, .junk, .junk, .junk, .junk, .junk, .junk, .junk, .junk, .junk, .junk, .junk, .junk, .junk, .junk, .junk, .junk, .junk, .junk, .junk, .junk, .junk, .junk, .junk, .junk, .junk, .junk, .junk, .junk, .junk, .junk, .junk, .junk, .junk, .junk, .junk, .junk, .junk, .junk, .junk, .junk, .junk, .junk, .junk, .junk, .junk, .junk, .junk, .junk, .junk, .junk, .junk, .junk, .junk, .junk, .junk, .junk, .junk, .junk, .junk, .junk, .junk, .junk, .junk, .junk, .junk, .junk, .junk], [.arr 0 2 [[.ro 1 (p0.funs.map funC), .ro 5 (p0.cos.map coV)]], .arr 0 5 [[.i .i64 x12.op, .i .i64 x12.a, .i .i64 x12.b, .i .i64 x12.c, .ro 1 (x12.l.map (fun z => [n z]))]]]⟩ : St)) x.1.1 x.1.2) (fun x => x12.l.length - x.1.1) ⟨(0, (((((((a12_0 ++ (dig x12.op)) ++ ([32] : List UInt8)) ++ (dig x12.a)) ++ ([32] : List UInt8)) ++ (dig x12.b)) ++ ([32] : List UInt8)) ++ (dig x12.c))), Nat.zero_le _, e17, by ((try dsimp only); first | omega | assumption | (simp; done) | (simp; assumption) | (simp; omega) | (simp at *; omega) | simp_all)⟩ ?_ ?_
                  · skip
                    try dsimp only
                    try dsimp only
                    refine Sub.cutE 2 [false, true, false, true, false, false, true, true, true, true, false, false, false, false, false, false, false, false, false, false, false, false, false, false, false, false, false, false, false, false, false, false, false, false, false, false, false, false, false, false, false, false, false, false, false, false, false, false, false, false, false, false, false, false, false, false, false, false, false, false, false, false, false, false, false, false, false, false, false, false, false, false, false, false, false, false, false, false, false, false, false, false, false, false, false, false, false, false, false, false, false, false, false, false, false, false, false, false, false, false, false, false, false, false, false, false, false, false, false, false] (by simp) ?_ ?_ <;> simp [List.range_succ, toIdx_range, passed, keepT, List.map_set, k11, u11, hx8, ct12, k13, u13, hx12, ct14, ct15, ct16, ct17, ct18, ct19, ct20]
                  · skip
                    rintro ⟨⟨j17, a17_0⟩, hi17, e17, q17⟩
                    simp only at hi17 e17 ⊢
                    try dsimp only at q17
                    refine EV.seq ?_
                    refine EV.seq ?_
                    refine EV.regionG tabOK ?_ -- region 17
                    simp -implicitDefEqProofs [k11, u11, hx8, ct12, k13, u13, hx12, ct14, ct15, ct16, ct17, ct18, ct19, ct20]
                    refine EV.room 93 (by rfl) (fun mj17 => ?_)
                    simp at mj17
                    refine EV.condT ?_
                    simp -implicitDefEqProofs [k11, u11, hx8, ct12, k13, u13, hx12, ct14, ct15, ct16, ct17, ct18, ct19, ct20]
                    refine condT_intro (fun k21 => ?_) (fun k21 => ?_)
                    · try simp at k21
                      have u21 : j17 < x12.l.length := by omega
                      obtain ⟨x17, hx17⟩ : ∃ z, x12.l[j17] = z := ⟨_, rfl⟩
                      have mx17 : x17 ∈ x12.l := by rw [← hx17]; exact List.getElem_mem _
                      have o6 := o5 x17 mx17
                      rw [List.drop_eq_getElem_cons u21, hx17, F24_l17] at e17
                      refine EV.skip ?_
                      simp only [thenK_normal, blockK_normal, scopeK_normal]
                      refine EV.seq ?_
                      refine EV.block ?_
                      have ct22 : (a17_0).length + (([32] : List UInt8)).length ≤ 9223372036854775807 := by (first | omega | (simp; omega))
                      try simp at ct22
                      have := dig_len x17
                      have ct23 : ((a17_0 ++ ([32] : List UInt8))).length + ((dig x17)).length ≤ 9223372036854775807 := by (first | omega | (simp; omega))
                      try simp at ct23
                      refine EV.regionG tabOK ?_ -- region 19
                      simp -implicitDefEqProofs [k11, u11, hx8, ct12, k13, u13, hx12, ct14, ct15, ct16, ct17, ct18, ct19, ct20, k21, u21, hx17, ct22, ct23]
                      refine callG_fun (w_dig x17 (by first | assumption | grind)) ?_ ?_
                      · simp
                      simp -implicitDefEqProofs [k11, u11, hx8, ct12, k13, u13, hx12, ct14, ct15, ct16, ct17, ct18, ct19, ct20, k21, u21, hx17, ct22, ct23]
                      refine EV.regionG tabOK ?_ -- region 18
                      simp -implicitDefEqProofs [k11, u11, hx8, ct12, k13, u13, hx12, ct14, ct15, ct16, ct17, ct18, ct19, ct20, k21, u21, hx17, ct22, ct23]
                      have w17 : IntKind.i64.wrap ((j17 : Int) + 1) = (j17 : Int) + 1 := wrap_in _ (by omega) (by omega)
                      refine ⟨⟨(j17 + 1, ((a17_0 ++ ([32] : List UInt8)) ++ (dig x17))), by omega, e17, by ((try dsimp only); first | omega | assumption | (simp; done) | (simp; assumption) | (simp; omega) | (simp at *; omega) | simp_all)⟩, by dsimp only; omega, ?_⟩
                      try dsimp only
                      refine Sub.cutE 2 [false, true, false, true, false, false, true, true, true, true, false, false, false, false, false, false, false, false, false, false, false, false, false, false, false, false, false, false, false, false, false, false, false, false, false, false, false, false, false, false, false, false, false, false, false, false, false, false, false, false, false, false, false, false, false, false, false, false, false, false, false, false, false, false, false, false, false, false, false, false, false, false, false, false, false, false, false, false, false, false, false, false, false, false, false, false, false, false, false, false, false, false, false, false, false, false, false, false, false, false, false, false, false, false, false, false, false, false, false, false] (by simp) ?_ ?_ <;> simp [List.range_succ, toIdx_range, passed, keepT, List.map_set, k11, u11, hx8, ct12, k13, u13, hx12, ct14, ct15, ct16, ct17, ct18, ct19, ct20, k21, u21, hx17, ct22, ct23, w17]
                    · try simp at k21
                      have d21 : x12.l.drop j17 = [] := List.drop_eq_nil_of_le (by omega)
                      rw [d21, F24_l17] at e17
                      refine EV.exit ?_
                      simp -implicitDefEqProofs
                      refine ⟨⟨(a17_0, ()), e17.symm, by ((try dsimp only); first | omega | assumption | (simp; done) | (simp; assumption) | (simp; omega) | (simp at *; omega) | simp_all)⟩, ?_⟩
                      try dsimp only
                      refine Sub.cutE 1 [false, true, false, true, false, false, true, true, false, false, false, false, false, false, false, false, false, false, false, false, false, false, false, false, false, false, false, false, false, false, false, false, false, false, false, false, false, false, false, false, false, false, false, false, false, false, false, false, false, false, false, false, false, false, false, false, false, false, false, false, false, false, false, false, false, false, false, false, false, false, false, false, false, false, false, false, false, false, false, false, false, false, false, false, false, false, false, false, false, false, false, false, false, false, false, false, false, false, false, false, false, false, false, false, false, false, false, false, false, false] (by simp) ?_ ?_ <;> simp [List.range_succ, toIdx_range, passed, keepT, List.map_set, k11, u11, hx8, ct12, k13, u13, hx12, ct14, ct15, ct16, ct17, ct18, ct19, ct20]
                · skip
                  rintro ⟨⟨v17, g17⟩, e17, p17⟩
                  simp only [thenK_normal, blockK_normal, scopeK_normal, bodyK_normal]
                  try dsimp only at p17
                  replace e12 := bnd_on e12 e17
                  try dsimp only at e12
                  have ct24 : (v17).length + (([10] : List UInt8)).length ≤ 9223372036854775807 := by (first | omega | (simp; omega))
                  try simp at ct24
                  refine EV.regionG tabOK ?_ -- region 20
                  simp -implicitDefEqProofs [k11, u11, hx8, ct12, k13, u13, hx12, ct14, ct15, ct16, ct17, ct18, ct19, ct20, ct24]
                  refine EV.regionG tabOK ?_ -- region 13
                  simp -implicitDefEqProofs [k11, u11, hx8, ct12, k13, u13, hx12, ct14, ct15, ct16, ct17, ct18, ct19, ct20, ct24]
                  have w12 : IntKind.i64.wrap ((j12 : Int) + 1) = (j12 : Int) + 1 := wrap_in _ (by omega) (by omega)
                  refine ⟨⟨(j12 + 1, (v17 ++ ([10] : List UInt8))), by omega, e12, by ((try dsimp only); first | omega | assumption | (simp; done) | (simp; assumption) | (simp; omega) | (simp at *; omega) | simp_all)⟩, by dsimp only; omega, ?_⟩
                  try dsimp only
                  refine Sub.cutE 1 [false, true, false, true, false, false, true, true, false, false, false, false, false, false, false, false, false, false, false, false, false, false, false, false, false, false, false, false, false, false, false, false, false, false, false, false, false, false, false, false, false, false, false, false, false, false, false, false, false, false, false, false, false, false, false, false, false, false, false, false, false, false, false, false, false, false, false, false, false, false, false, false, false, false, false, false, false, false, false, false, false, false, false, false, false, false, false, false, false, false, false, false, false, false, false, false, false, false, false, false, false, false, false, false, false, false, false, false, false, false] (by simp) ?_ ?_ <;> simp [List.range_succ, toIdx_range, passed, keepT, List.map_set, k11, u11, hx8, ct12, k13, u13, hx12, ct14, ct15, ct16, ct17, ct18, ct19, ct20, ct24, w12]
              · try simp at k13
                have d13 : x8.drop j12 = [] := List.drop_eq_nil_of_le (by omega)
                rw [d13, F24_l12] at e12
                refine EV.exit ?_
                simp -implicitDefEqProofs
                refine ⟨⟨(a12_0, ()), e12.symm, by ((try dsimp only); first | omega | assumption | (simp; done) | (simp; assumption) | (simp; omega) | (simp at *; omega) | simp_all)⟩, ?_⟩
                try dsimp only
                refine Sub.cutE 1 [false, true, false, true, false, false, true, false, false, false, false, false, false, false, false, false, false, false, false, false, false, false, false, false, false, false, false, false, false, false, false, false, false, false, false, false, false, false, false, false, false, false, false, false, false, false, false, false, false, false, false, false, false, false, false, false, false, false, false, false, false, false, false, false, false, false, false, false, false, false, false, false, false, false, false, false, false, false, false, false, false, false, false, false, false, false, false, false, false, false, false, false, false, false, false, false, false, false, false, false, false, false, false, false, false, false, false, false, false, false] (by simp) ?_ ?_ <;> simp [List.range_succ, toIdx_range, passed, keepT, List.map_set, k11, u11, hx8, ct12]
          · skip
            rintro ⟨⟨v12, g12⟩, e12, p12⟩
            simp only [thenK_normal, blockK_normal, scopeK_normal, bodyK_normal]
            try dsimp only at p12
            replace e8 := bnd_on e8 e12
            try dsimp only at e8
            refine EV.regionG tabOK ?_ -- region 9
            simp -implicitDefEqProofs [k11, u11, hx8, ct12]
            have w8 : IntKind.i64.wrap ((j8 : Int) + 1) = (j8 : Int) + 1 := wrap_in _ (by omega) (by omega)
            refine ⟨⟨(j8 + 1, v12), by omega, e8, by ((try dsimp only); first | omega | assumption | (simp; done) | (simp; assumption) | (simp; omega) | (simp at *; omega) | simp_all)⟩, by dsimp only; omega, ?_⟩
            try dsimp only
            refine Sub.cutE 1 [false, true, false, true, false, false, true, false, false, false, false, false, false, false, false, false, false, false, false, false, false, false, false, false, false, false, false, false, false, false, false, false, false, false, false, false, false, false, false, false, false, false, false, false, false, false, false, false, false, false, false, false, false, false, false, false, false, false, false, false, false, false, false, false, false, false, false, false, false, false, false, false, false, false, false, false, false, false, false, false, false, false, false, false, false, false, false, false, false, false, false, false, false, false, false, false, false, false, false, false, false, false, false, false, false, false, false, false, false, false] (by simp) ?_ ?_ <;> simp [List.range_succ, toIdx_range, passed, keepT, List.map_set, k11, u11, hx8, ct12, w8]
        · try simp at k11
          have d11 : p0.funs.drop j8 = [] := List.drop_eq_nil_of_le (by omega)
          rw [d11, F24_l8] at e8
          refine EV.exit ?_
          simp -implicitDefEqProofs
          refine ⟨⟨(a8_0, ()), e8.symm, by ((try dsimp only); first | omega | assumption | (simp; done) | (simp; assumption) | (simp; omega) | (simp at *; omega) | simp_all)⟩, ?_⟩
          try dsimp only
          refine Sub.cutE 0 [false, false, false, true, false, false, false, false, false, false, false, false, false, false, false, false, false, false, false, false, false, false, false, false, false, false, false, false, false, false, false, false, false, false, false, false, false, false, false, false, false, false, false, false, false, false, false, false, false, false, false, false, false, false, false, false, false, false, false, false, false, false, false, false, false, false, false, false, false, false, false, false, false, false, false, false, false, false, false, false, false, false, false, false, false, false, false, false, false, false, false, false, false, false, false, false, false, false, false, false, false, false, false, false, false, false, false, false, false, false] (by simp) ?_ ?_ <;> simp [List.range_succ, toIdx_range, passed, keepT, List.map_set]
    · skip
      rintro ⟨⟨v8, g8⟩, e8, p8⟩
      simp only [thenK_normal, blockK_normal, scopeK_normal, bodyK_normal]
      try dsimp only at p8
      replace e := bnd_on e e8
      try dsimp only at e
      refine EV.seq ?_
      refine EV.regionG tabOK ?_ -- region 21
      simp -implicitDefEqProofs
      refine EV.ret ?_
      simp only [thenK_ret, blockK_ret, scopeK_ret, bodyK_ret]
      subst e
      refine Fin.pure0 ?_
      simp

end Go.Proofs.Tryd
end
section
namespace Go.Proofs.Tryd
open Go Go.AM
attribute [local simp] wpG_op wpG_nil contG_some wpG_guard guardG_v guardG_o guardG_tup gval pureOp stepG_if isPick pickG_pick pickB_b pickOK isCall step_move step_assign step_alloc step_box boxV_some step_load step_store step_binOp step_unOp step_fieldAddr faV step_indexAddr ixA_slc ixA_arr step_extract extV_tup step_nilCheck ncV_ptr ncV_rp ncV_fn ncV_mp step_build buildV step_buildSlice bsV step_index ixV_arr ixV_str step_append apB step_makeSlice msV_i step_makeFunc over step_len step_makeMap mmV step_mapUpdate step_insert muA_map muB_mp step_lookup lkA_map lkB_mp step_slice slcV_s slcV_sl slcV_ro cutB_some slObV_arr bound_none bound_some bndV_i lenB_str lenB_ro lenB_sl lenB_nil lenB_z ld_ptr ld_rp offV_ptr offV_rp idxV_ro idxV_sl unV_not unV_neg binV_int binV_str binV_eqlb binV_neqb intOp strOp St.put updL setOb St.ev toV St.lk cellsOf AM.valOf TK.agg stv fillV places TI.zero condT_true condT_false finS resL resSlot packV ren ren1 ren0 Value.cells builtinV appendV elemsOf keepT room_of wrap_in toIdx Ob.ren passed Function.comp_def take_len_map lenV touchOf hid tab1 tab2 tab3 tab4 tab5 tab6 tab7 tab8 tab9 tab10 tab11 tab12 tab13 tab14 tab15 tab16 tab17 tab18 tab19 tab20 tab21 tab22 tab23 tab24 tab25 tab26 tab28 tab29 tab30 tab31 tab32 tab33 tab34 tab35 tab36 tab37 tab38 tab39 tab40 tab41 tab42 tab43 tab44 tab45 tab46 tab48 tab49 tab50 tab51 tab52 tab53 tab54 tab55 tab56 tab57 tab58 tab59 tab60 tab61 tab62 tab63 tab64 tab65 tab67 tab68 tab69 tab70 tab71 tab72 tab73 tab74 tab75 tab76 tab77 tab78 tab79 tab80 tab81 tab82 tab83 tab84 tab85 tab86 tab89 tab90 tab91 tab92 tab93 tab94 tab95 tab96 tab98 tab99 tab100 tab101 tab102 tab103 tab104 tab105 tab106 tab107 tab108 tab109 tab113 tab114 tab115 tab116 tab117 tab118 tab119 tab120 ren_arr ren_gone ren_unborn ren_var ren_row insC coV funC step_convert cvV_i cvV_sl cvV_s cvK_slc cvE_u8 bytesOf progC
set_option linter.unusedSimpArgs false
set_option maxRecDepth 10000
set_option maxHeartbeats 4000000

theorem flat_bound {α : Type} (g : α → List UInt8) (C : Nat) : ∀ (l : List α), (∀ x ∈ l, (g x).length ≤ C) → ((l.map g).flatten).length ≤ l.length * C
  | [], _ => by simp
  | x :: l, h => by
    have h1 := h x List.mem_cons_self
    have h2 := flat_bound g C l fun y hy => h y (List.mem_cons_of_mem _ hy)
    simp only [List.map_cons, List.flatten_cons, List.length_append, List.length_cons, Nat.succ_mul]
    omega
theorem F24_l17_eq : ∀ (l : List Int) (a : List UInt8), F24_l17 l a = a ++ (l.map fun z => 32 :: dig z).flatten
  | [], a => by simp [F24_l17]
  | x :: l, a => by simp [F24_l17, F24_l17_eq l]
theorem F24_l12_eq : ∀ (f : List InsD) (a : List UInt8), F24_l12 f a = a ++ insT dig f
  | [], a => by simp [F24_l12, insT]
  | x :: f, a => by
    have ih := F24_l12_eq f
    simp only [F24_l12, bnd_eq, F24_l17_eq, ih]
    simp [insT, insT1, rowI, joinS, Function.comp_def]
theorem F24_l8_eq : ∀ (fs : List (List InsD)) (a : List UInt8), F24_l8 fs a = a ++ funsT dig fs
  | [], a => by simp [F24_l8, funsT]
  | f :: fs, a => by
    have ih := F24_l8_eq fs
    simp only [F24_l8, bnd_eq, F24_l12_eq, ih]
    simp [funsT, funT]
theorem F24_l3_eq : ∀ (cs : List CoD) (a : List UInt8), F24_l3 cs a = a ++ cosT dig cs
  | [], a => by simp [F24_l3, cosT]
  | c :: cs, a => by
    have ih := F24_l3_eq cs
    simp only [F24_l3, bnd_eq, ih]
    simp [cosT, coT, joinS]
theorem F24_eq (p : ProgD) : F24 p = progT dig p.funs p.cos := by
  simp [F24, bnd_eq, F24_l3_eq, F24_l8_eq, progT]
theorem insT1_len (x : InsD) (h : x.l.length ≤ 60) : (insT1 dig x).length ≤ 1500 := by
  have h1 := dig_len x.op
  have h2 := dig_len x.a
  have h3 := dig_len x.b
  have h4 := dig_len x.c
  have h5 := flat_bound (fun z => 32 :: dig z) 22 x.l fun z _ => by have := dig_len z; simp; omega
  have h6 : (insT1 dig x).length = (dig x.op).length + (dig x.a).length + (dig x.b).length + (dig x.c).length + ((x.l.map fun z => 32 :: dig z).flatten).length + 4 := by
    simp [insT1, rowI, joinS, Function.comp_def]; try omega
  omega
theorem progT_len {p : ProgD} (hs : SmallP p) : (progT dig p.funs p.cos).length ≤ 10000000 := by
  have h1 := flat_bound (coT dig) 200 p.cos fun c _ => by
    have h1 := dig_len c.res
    have h2 := dig_len c.can
    have h3 := dig_len c.words
    have h4 := dig_len c.args
    simp [coT, joinS]; try omega
  have h2 := flat_bound (funT dig) 100000 p.funs fun f hf => by
    have h3 := flat_bound (insT1 dig) 1500 f fun x hx => insT1_len x (hs.ll f hf x hx)
    have h4 := hs.ff f hf
    have h5 : (funT dig f).length = ((f.map (insT1 dig)).flatten).length + 4 := by simp [funT, insT]; try omega
    have h6 : f.length * 1500 ≤ 60 * 1500 := Nat.mul_le_mul_right _ h4
    omega
  have h3 : p.cos.length * 200 ≤ 60 * 200 := Nat.mul_le_mul_right _ hs.co
  have h4 : p.funs.length * 100000 ≤ 60 * 100000 := Nat.mul_le_mul_right _ hs.fu
  have h5 : (progT dig p.funs p.cos).length = ((p.cos.map (coT dig)).flatten).length + ((p.funs.map (funT dig)).flatten).length := by simp [progT, cosT, funsT]
  omega
theorem w_23 (p : ProgD) (hs : SmallP p) (hr : RngP p) : QC prog 23 [.agg [.ro 1 (p.funs.map funC), .ro 5 (p.cos.map coV)]] [] (.s (F24 p)) [] := by
  rw [F24_eq]
  refine walk23 dig p.funs p.cos (fun z hz => ?_) (Nat.le_trans (progT_len hs) (by decide)) (Nat.le_trans hs.fu (by decide)) (Nat.le_trans hs.co (by decide)) (fun f hf => Nat.le_trans (hs.ff f hf) (by decide)) (fun f hf x hx => Nat.le_trans (hs.ll f hf x hx) (by decide))
  have hi : inI64 z := by
    rcases hz with ⟨c, hc, h⟩ | ⟨f, hf, x, hx, h⟩
    · obtain ⟨h1, h2, h3, h4⟩ := hr.co c hc
      rcases h with rfl | rfl | rfl | rfl <;> assumption
    · obtain ⟨h1, h2, h3, h4, h5⟩ := hr.fu f hf x hx
      simp only [rowI, List.mem_append, List.mem_cons, List.not_mem_nil, or_false] at h
      rcases h with (rfl | rfl | rfl | rfl) | h
      · exact h1
      · exact h2
      · exact h3
      · exact h4
      · exact h5 z h
  rw [dig_eq hi]
  exact walkIt z hi
theorem small_of {p : ProgD} (h : overB p.funs p.cos = false) : SmallP p :=
  ⟨(over_s h).2, (over_s h).1, fun f hf => over_f h hf, fun f hf => (over_b h hf).2⟩
theorem w_18 (p : ProgD) : QC prog 18 [.agg [.ro 1 (p.funs.map funC), .ro 5 (p.cos.map coV)]] [] (.b (overB p.funs p.cos)) [] := walk18 p.funs p.cos


noncomputable def L5 (p0 : ProgD) : Bool :=
  (if (overB p0.funs p0.cos) = true then true else (decide ((F24 p0) = (F24 p0))))
set_option maxHeartbeats 4000000 in
theorem w_L5 (p0 : ProgD) (hr : RngP p0) : QC prog 5 [.agg [.ro 1 (p0.funs.map funC), .ro 5 (p0.cos.map coV)]] [] (.b (L5 p0)) [] := by
  refine QC.of_body tabOK func5 rfl (by kernel_rfl) ?_
  simp only [f5]
  generalize e : L5 p0 = R
  unfold L5 at e
  refine EV.seq ?_
  refine EV.regionG tabOK ?_ -- region 0
  simp -implicitDefEqProofs
  refine EV.seq ?_
  refine EV.regionG tabOK ?_ -- region 1
  simp -implicitDefEqProofs
  refine callG_fun walk10 ?_ ?_
  · simp
  simp -implicitDefEqProofs
  refine EV.seq ?_
  refine EV.seq ?_
  refine EV.regionG tabOK ?_ -- region 2
  simp -implicitDefEqProofs
  refine EV.condT ?_
  simp -implicitDefEqProofs
  refine EV.skip ?_
  simp only [thenK_normal, blockK_normal, scopeK_normal]
  refine EV.seq ?_
  refine EV.regionG tabOK ?_ -- region 4
  simp -implicitDefEqProofs
  refine callG_fun (w_18 p0) ?_ ?_
  · simp
  simp -implicitDefEqProofs
  refine EV.seq ?_
  refine EV.seq ?_
  refine EV.regionG tabOK ?_ -- region 5
  simp -implicitDefEqProofs
  refine EV.condT ?_
  simp -implicitDefEqProofs
  refine condT_intro (fun k1 => ?_) (fun k1 => ?_)
  · try simp at k1
    replace e := pos_on e (by first | simpa using k1 | grind)
    refine EV.seq ?_
    refine EV.regionG tabOK ?_ -- region 6
    simp -implicitDefEqProofs
    refine EV.ret ?_
    simp only [thenK_ret, blockK_ret, scopeK_ret, bodyK_ret]
    subst e
    refine Fin.pure0 ?_
    simp
  · try simp at k1
    replace e := neg_on e (by first | simpa using k1 | grind)
    refine EV.skip ?_
    simp only [thenK_normal, blockK_normal, scopeK_normal]
    refine EV.seq ?_
    refine EV.drawG tabOK mixedOK ?_ -- region 7
    simp -implicitDefEqProofs +contextual
    refine callG_fun (w_23 p0 (small_of (by first | assumption | grind)) hr) ?_ ?_
    · simp
    simp -implicitDefEqProofs +contextual
    refine callG_fun (w_F24 p0 (small_of (by first | assumption | grind)) hr) ?_ ?_
    · simp
    simp -implicitDefEqProofs +contextual
    refine And.intro ?_ ?_
    · first | decide +kernel | (simp -implicitDefEqProofs; decide +kernel) | (split <;> decide +kernel)
    try simp -implicitDefEqProofs
    refine EV.ret ?_
    simp only [thenK_ret, blockK_ret, scopeK_ret, bodyK_ret]
    subst e
    refine Fin.pure0 ?_
    simp

theorem L5_true (p : ProgD) : L5 p = true := by simp [L5]
end Go.Proofs.Tryd
end
section
namespace Go.Proofs.YtaklafpfbhaoaaaDoor
open Go.ChangeShapes Go.WideShapes Go.ChangeAt Go.RowKit Go.AM Go.Proofs.Tryd

theorem gokOf {W : World} {L : List (String × DataW Unit)} (hL : L.drop 2 = [("internal/strconv.uint64pow10", Lib.tabData .u64 Lib.pow10Tab)])
    (hp : (L.all fun x => x.2.handleName?.isNone) = true) (h : laidMetH Tryd.prog L W) : GOK Tryd.prog W (fun _ => False) := by
  rw [MakeChecks.laidMetH_plain _ _ _ hp] at h
  obtain ⟨a, b, rfl⟩ : ∃ a b, L = [a, b, ("internal/strconv.uint64pow10", Lib.tabData .u64 Lib.pow10Tab)] := by
    match L, hL with
    | a :: b :: r, hL => exact ⟨a, b, by rw [show r = _ from hL]⟩
  have h1 := Lib.tabIs_of_head (g := 0) (t := 101) (e := 94) (n := 20) (by kernel_rfl) (by kernel_rfl) (by kernel_rfl) (by kernel_rfl) (by kernel_rfl) (by kernel_rfl) (laidMet.tail (laidMet.tail h))
  intro e he
  obtain rfl := List.mem_singleton.1 he
  refine ⟨h1, fun g hg => ⟨?_, not_false⟩⟩
  unfold Lib.TabIs World.var? at h1
  rw [hg] at h1
  simp only [Option.bind_some] at h1
  rcases Nat.lt_or_ge g W.heap.size with h' | h'
  · exact h'
  · rw [Array.getElem?_eq_none h'] at h1; cases h1
end Go.Proofs.YtaklafpfbhaoaaaDoor
namespace Go.Proofs.Tryd
open Go Go.AM
theorem shp_i64r {k : Nat} {t : TypeId} {xs : List V} (ht : (tab t).kind = .int .i64) (h : shp tab (k + 1) t xs) : ∃ m, xs = [n m] ∧ inI64 m := by
  unfold shp at h
  rw [ht] at h
  obtain ⟨m, hw, h⟩ := h
  refine ⟨m, h, ?_⟩
  simp only [Lit.wf, Bool.and_eq_true, decide_eq_true_eq] at hw
  exact hw
theorem list_formR {A B : Type} (g : A → B) (Q : A → Prop) : ∀ (es : List B), (∀ l ∈ es, ∃ a, l = g a ∧ Q a) → ∃ l : List A, es = l.map g ∧ ∀ a ∈ l, Q a
  | [], _ => ⟨[], rfl, fun a h => by cases h⟩
  | e :: es, h => by
    obtain ⟨a, ha, hq⟩ := h e List.mem_cons_self
    obtain ⟨r, hr, hqs⟩ := list_formR g Q es fun l hl => h l (List.mem_cons_of_mem _ hl)
    refine ⟨a :: r, by rw [ha, hr]; rfl, fun b hb => ?_⟩
    rcases List.mem_cons.1 hb with rfl | hb
    · exact hq
    · exact hqs b hb
theorem shp_insR {k : Nat} {xs : List V} (h : shp tab (k + 3) 25 xs) : ∃ x : InsD, xs = insC x ∧ RngI x := by
  unfold shp at h
  rw [show (tab 25).kind = .str [(0, 22), (1, 3), (2, 3), (3, 3), (4, 23)] from rfl] at h
  obtain ⟨yss, h1, h2, h3⟩ := h
  match yss, h2 with
  | [y0, y1, y2, y3, y4], _ =>
    obtain ⟨op, rfl, r0⟩ := shp_i64r (t := 22) rfl (h3 0 _ _ rfl rfl)
    obtain ⟨a, rfl, r1⟩ := shp_i64r (t := 3) rfl (h3 1 _ _ rfl rfl)
    obtain ⟨b, rfl, r2⟩ := shp_i64r (t := 3) rfl (h3 2 _ _ rfl rfl)
    obtain ⟨c, rfl, r3⟩ := shp_i64r (t := 3) rfl (h3 3 _ _ rfl rfl)
    have h4 := h3 4 _ _ rfl rfl
    unfold shp at h4
    rw [show (tab 23).kind = .slc 3 from rfl] at h4
    obtain ⟨es, _, rfl, h5⟩ := h4
    obtain ⟨l, rfl, r4⟩ := list_formR (fun z : Int => [n z]) inI64 es fun r hr => shp_i64r (t := 3) rfl (h5 r hr)
    exact ⟨⟨op, a, b, c, l⟩, by rw [h1]; rfl, r0, r1, r2, r3, r4⟩
theorem shp_coR {k : Nat} {xs : List V} (h : shp tab (k + 2) 53 xs) : ∃ c : CoD, xs = coV c ∧ RngC c := by
  unfold shp at h
  rw [show (tab 53).kind = .str [(0, 9), (1, 3), (2, 3), (3, 3), (4, 3)] from rfl] at h
  obtain ⟨yss, h1, h2, h3⟩ := h
  match yss, h2 with
  | [y0, y1, y2, y3, y4], _ =>
    obtain ⟨nm, rfl⟩ := shp_str (t := 9) rfl (h3 0 _ _ rfl rfl)
    obtain ⟨a, rfl, r1⟩ := shp_i64r (t := 3) rfl (h3 1 _ _ rfl rfl)
    obtain ⟨b, rfl, r2⟩ := shp_i64r (t := 3) rfl (h3 2 _ _ rfl rfl)
    obtain ⟨c, rfl, r3⟩ := shp_i64r (t := 3) rfl (h3 3 _ _ rfl rfl)
    obtain ⟨d, rfl, r4⟩ := shp_i64r (t := 3) rfl (h3 4 _ _ rfl rfl)
    exact ⟨⟨nm, a, b, c, d⟩, by rw [h1]; rfl, r1, r2, r3, r4⟩
theorem shp_progR {k : Nat} {xs : List V} (h : shp tab (k + 6) 35 xs) : ∃ p : ProgD, xs = [.ro 1 (p.funs.map funC), .ro 5 (p.cos.map coV)] ∧ RngP p := by
  unfold shp at h
  rw [show (tab 35).kind = .str [(0, 32), (1, 33)] from rfl] at h
  obtain ⟨yss, h1, h2, h3⟩ := h
  match yss, h2 with
  | [y0, y1], _ =>
    have hf := h3 0 _ _ rfl rfl
    have hc := h3 1 _ _ rfl rfl
    unfold shp at hf hc
    rw [show (tab 32).kind = .slc 39 from rfl] at hf
    rw [show (tab 33).kind = .slc 53 from rfl] at hc
    obtain ⟨es, _, rfl, hes⟩ := hf
    obtain ⟨ds, _, rfl, hds⟩ := hc
    obtain ⟨funs, rfl, hF⟩ := list_formR funC (fun f => ∀ x ∈ f, RngI x) es fun r hr => by
      have hr2 := hes r hr
      unfold shp at hr2
      rw [show (tab 39).kind = .slc 25 from rfl] at hr2
      obtain ⟨is, _, rfl, his⟩ := hr2
      obtain ⟨f, rfl, hq⟩ := list_formR insC RngI is fun q hq => shp_insR (his q hq)
      exact ⟨f, rfl, hq⟩
    obtain ⟨cos, rfl, hC⟩ := list_formR coV RngC ds fun r hr => shp_coR (hds r hr)
    exact ⟨⟨funs, cos⟩, by rw [h1]; rfl, hC, hF⟩
end Go.Proofs.Tryd
end
section
namespace Go.Proofs.YtaklafpfbhaoaaaDoor
open Go.ChangeShapes Go.WideShapes Go.ChangeAt Go.RowKit Go.AM Go.Proofs.Tryd

set_option maxRecDepth 100000 in
theorem codeTextsLifted (HQ : ∀ (xs0 : List V), shp tab 6 35 xs0 → QC Tryd.prog 5 [.agg xs0] [] (.b true) []) (os : Os) (started : os.Started) (H : Type) (enc : TypeId × Value → H) :
    ReturnsInHanded {} Tryd.checked os 5 .any (fun w args => (Rows.codeTextsSpec.pre enc Tryd.prog Tryd.f5 Rows.codeTextsRow.domain false w args ∧ laidMetH Tryd.prog Rows.codeTextsRow.laid w) ∧ sizedMet enc Tryd.prog Tryd.f5 (OpenSpec.ofChange Rows.codeTextsSpec) false w args)
      (Rows.codeTextsSpec.post enc Tryd.prog Tryd.f5 false true false false) := by
  refine returnsInHanded_of_change_and (C := Tryd.checked) (X := fun w _ => laidMetH Tryd.prog Rows.codeTextsRow.laid w) (fun _ _ _ hh h => h.of_heap hh) ownKnobNone started (by kernel_rfl) Tryd.func5
    (ChangeSpec.witness_shaped (enc := enc) (C := Tryd.checked) (os := os) (X := fun w _ => laidMetH Tryd.prog Rows.codeTextsRow.laid w) false (World.laidAll Tryd.prog os Rows.codeTextsRow.laid) #[.agg #[.slice none 0 0, .slice none 0 0]] 8 (World.laidAll_os _ _ _)
      (World.shaped_of_ZipB (by kernel_rfl) (by kernel_rfl)) (by kernel_rfl) (by kernel_rfl) (by kernel_rfl)
      (by rw [MakeChecks.laidMetH_plain _ _ _ (by kernel_rfl)]; exact laidMet_laidAll _ (by kernel_rfl) (by kernel_rfl))) ?_
  intro W base args ds gs before hval0 hW _ _ hL _
  have hval : ∀ (j : Nat) t v, Tryd.f5.params[j]? = some t → args[j]? = some v → Value.okWide Tryd.prog W .any base t v := hval0
  have hW' := hW
  obtain ⟨p, q, hA0, hV, rfl, _, _⟩ := hW
  have hA : DataW.TrodAll enc Tryd.prog W 0 (fun _ => true) true Tryd.f5.params.toList args.toList ds p := hA0
  rw [Tryd.params5] at hA hval
  obtain ⟨v0, d0, rfl, rfl, h0⟩ := trodAll_one hA
  obtain ⟨rfl, rfl⟩ := trodVars_none hV
  simp only [List.append_nil] at hW'
  have hlt : ∀ x ∈ p, x.block < W.heap.size := fun x hx => by simpa using hW'.lt x hx
  obtain ⟨xs0, hs0, hr0⟩ := arg_struct tabOK (T := tab) (n := 6) (t := 35) rfl (by decide +kernel) (hval 0 35 v0 rfl rfl) h0
  refine ((HQ xs0 hs0).truth (gokOf (L := Rows.codeTextsRow.laid) (by kernel_rfl) (by kernel_rfl) hL) (vs := #[v0]) (W := W) rfl (fun ok hok D j x u hx hu => ?_)).mono fun e W' ⟨he, hb⟩ => ?_
  · match j with
    | 0 =>
      simp only [List.getElem?_cons_succ, List.getElem?_cons_zero, Option.some.injEq] at hx
      subst hx
      obtain rfl : v0 = u := by simpa using hu
      exact hr0 ok hok D
    | j + 1 => simp at hx
  · subst he
    refine ⟨_, rfl, _, _, _, [], p, [], hW', ?_, ?_, ?_, hb.frame _, fun h => by cases h⟩
    · exact trodAll_mk1 (shut_bool Tryd.underlying4 true)
    · exact trodAll_mk1 (Below.trod laidOutAll (by kernel_rfl) (of_decide_eq_true (by kernel_rfl)) h0 hb hlt)
    · rfl

theorem codeTextsHolds (HQ : ∀ (xs0 : List V), shp tab 6 35 xs0 → QC Tryd.prog 5 [.agg xs0] [] (.b true) []) : Rows.CodeTextsSaid :=
  OpenClaim.holds_of_wide 5 Tryd.f5 rfl rfl rfl rfl rfl rfl rfl ⟨rfl, rfl, rfl, rfl, rfl⟩ rfl rfl rfl rfl rfl (by kernel_rfl) Tryd.func5 (by kernel_rfl)
    (of_decide_eq_true (by kernel_rfl)) (by unfold Func.isWrapper; rw [if_neg (by decide +kernel)]; exact ⟨rfl, rfl⟩)
    (fun os started H enc _ => codeTextsLifted HQ os started H enc)

theorem codeTextsCard (HQ : ∀ (xs0 : List V), shp tab 6 35 xs0 → QC Tryd.prog 5 [.agg xs0] [] (.b true) []) : Rows.CodeTextsCardSaid :=
  Claim7.holds_tied_plain_at .later [] [.data, .data, .data] true (true, "e0d625a2e69adf01b107668993ea5ba20a030b330d5d389efb3f1299f4f792e2") false (codeTextsHolds HQ) (fun _ h => by cases h) (by kernel_rfl) (fun _ h => by cases h) codeTexts_row_tie rfl ⟨rfl, rfl⟩ (by kernel_rfl) rfl
    (fun f fn hf hfn => by
      obtain rfl : f = 5 := Option.some.inj ((show Tryd.prog.funcNamed "cocoon/cocoonlaw02.CodeTexts" = some 5 by kernel_rfl).symm.trans hf) |>.symm
      obtain rfl : fn = Tryd.f5 := (Option.some.inj (Tryd.func5.symm.trans hfn)).symm
      exact ⟨by kernel_rfl, fun j t ht => by
        rw [Tryd.params5] at ht
        have hm : t ∈ [35] := by simpa using Array.mem_of_getElem? ht
        have hall : ([35].all fun u => !Tryd.prog.wantsStandIn u) = true := by kernel_rfl
        exact (show Tryd.prog.wantsStandIn t = false by simpa using List.all_eq_true.1 hall t hm)⟩)
    (by kernel_rfl)

theorem codeTexts_card : Rows.CodeTextsCardSaid := codeTextsCard fun xs0 hs0 => by
  obtain ⟨p, rfl, hr⟩ := shp_progR (k := 0) hs0
  have h := w_L5 p hr
  rw [L5_true] at h
  exact h
end Go.Proofs.YtaklafpfbhaoaaaDoor
end
