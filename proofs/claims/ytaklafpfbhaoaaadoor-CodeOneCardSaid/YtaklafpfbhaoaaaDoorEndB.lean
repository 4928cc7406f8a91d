/- An instruction of no kind, a label that is no place, or a register that there is not, anywhere, and a program may not be run: CodeOne, tied. No conditions. -/
import Derived.Test.YtaklafpfbhaoaaaDoorWalkD
import Derived.Test.YtaklafpfbhaoaaaDoorEndA
set_option linter.unusedVariables false
set_option linter.unusedSimpArgs false
set_option linter.constructorNameAsVariable false
section
namespace Go.Proofs.Tryd
open Go Go.AM
attribute [local simp] wpG_op wpG_nil contG_some wpG_guard guardG_v guardG_o guardG_tup gval pureOp stepG_if isPick pickG_pick pickB_b pickOK isCall step_move step_assign step_alloc step_box boxV_some step_load step_store step_binOp step_unOp step_fieldAddr faV step_indexAddr ixA_slc ixA_arr step_extract extV_tup step_nilCheck ncV_ptr ncV_rp ncV_fn ncV_mp step_build buildV step_buildSlice bsV step_index ixV_arr ixV_str step_append apB step_makeSlice msV_i step_makeFunc over step_len step_makeMap mmV step_mapUpdate step_insert muA_map muB_mp step_lookup lkA_map lkB_mp step_slice slcV_s slcV_sl slcV_ro cutB_some slObV_arr bound_none bound_some bndV_i lenB_str lenB_ro lenB_sl lenB_nil lenB_z ld_ptr ld_rp offV_ptr offV_rp idxV_ro idxV_sl unV_not unV_neg binV_int binV_str binV_eqlb binV_neqb intOp strOp St.put updL setOb St.ev toV St.lk cellsOf AM.valOf TK.agg stv fillV places TI.zero condT_true condT_false finS resL resSlot packV ren ren1 ren0 Value.cells builtinV appendV elemsOf keepT room_of wrap_in toIdx passed Function.comp_def take_len_map lenV touchOf hid tab1 tab2 tab3 tab4 tab5 tab6 tab7 tab8 tab9 tab10 tab11 tab12 tab13 tab14 tab15 tab16 tab17 tab18 tab19 tab20 tab21 tab22 tab23 tab24 tab25 tab26 tab28 tab29 tab30 tab31 tab32 tab33 tab34 tab35 tab36 tab37 tab38 tab39 tab40 tab41 tab42 tab43 tab44 tab45 tab46 tab48 tab49 tab50 tab51 tab52 tab53 tab54 tab55 tab56 tab57 tab58 tab59 tab60 tab61 tab62 tab63 tab64 tab65 tab67 tab68 tab69 tab70 tab71 tab72 tab73 tab74 tab75 tab76 tab77 tab78 tab79 tab80 tab81 tab82 tab83 tab84 tab85 tab86 tab89 tab90 tab91 tab92 tab93 tab94 tab95 tab96 tab98 tab99 tab100 tab101 tab102 tab103 tab104 tab105 tab106 tab107 tab108 tab109 tab113 tab114 tab115 tab116 tab117 tab118 tab119 tab120 ren_arr ren_gone ren_unborn
set_option linter.unusedSimpArgs false
set_option maxRecDepth 10000
set_option maxHeartbeats 4000000

theorem map_insC (l : List InsD) : List.map (fun x : InsD => [n x.op, n x.a, n x.b, n x.c, V.ro 1 (List.map (fun z => [n z]) x.l)]) l = List.map insC l := rfl
theorem walk8 (funs : List (List InsD)) (cos : List CoD) (fn at1 how : Int) : QC prog 8 [.agg [.ro 1 (funs.map funC), .ro 5 (cos.map coV)], n fn, n at1, n how] [] (.b true) [] := by
  refine QC.of_body tabOK func8 rfl (by kernel_rfl) ?_
  simp only [f8]
  refine EV.seq ?_
  refine EV.regionG tabOK ?_ -- region 0
  simp -implicitDefEqProofs
  refine EV.seq ?_
  refine EV.regionG tabOK ?_ -- region 1
  simp -implicitDefEqProofs
  refine callG_fun (walk10) ?_ ?_
  · simp [insV]
  simp -implicitDefEqProofs
  refine EV.seq ?_
  refine EV.seq ?_
  refine EV.regionG tabOK ?_ -- region 2
  simp -implicitDefEqProofs
  refine EV.condT ?_
  simp -implicitDefEqProofs
  refine EV.skip ?_
  simp only [thenK_normal, blockK_normal, scopeK_normal]
  refine EV.seq ?_
  refine EV.regionG tabOK ?_ -- region 4
  simp -implicitDefEqProofs
  refine callG_fun (walk18 funs cos) ?_ ?_
  · simp [insV]
  simp -implicitDefEqProofs
  refine EV.seq ?_
  refine EV.seq ?_
  rcases one_cases funs cos fn at1 with e1 | ⟨e1, e2⟩ | ⟨e1, e2, e3⟩ | ⟨e1, e2, e3, e4⟩ | ⟨e1, e2, e3, e4, e5⟩ | ⟨e1, e2, e3, e4, e5, e6⟩ | ⟨e1, e2, e3, e4, e5, e6⟩
  · skip
    refine EV.regionG tabOK ?_ -- region 5
    simp -implicitDefEqProofs +contextual [e1]
    refine EV.condT ?_
    simp -implicitDefEqProofs
    refine EV.seq ?_
    refine EV.regionG tabOK ?_ -- region 6
    simp -implicitDefEqProofs
    refine EV.ret ?_
    simp only [thenK_ret, blockK_ret, scopeK_ret, bodyK_ret]
    refine Fin.pure0 ?_
    simp [*]
  · skip
    refine EV.regionG tabOK ?_ -- region 5
    simp -implicitDefEqProofs +contextual [e1, e2]
    refine callG_fun (walk21 funs cos (over_ll e1)) ?_ ?_
    · simp [*]
    simp -implicitDefEqProofs [e1, e2]
    refine EV.condT ?_
    simp -implicitDefEqProofs
    refine EV.seq ?_
    refine EV.regionG tabOK ?_ -- region 6
    simp -implicitDefEqProofs
    refine EV.ret ?_
    simp only [thenK_ret, blockK_ret, scopeK_ret, bodyK_ret]
    refine Fin.pure0 ?_
    simp [*]
  · skip
    refine EV.regionG tabOK ?_ -- region 5
    simp -implicitDefEqProofs +contextual [e1, e2, e3]
    refine callG_fun (walk21 funs cos (over_ll e1)) ?_ ?_
    · simp [*]
    simp -implicitDefEqProofs [e1, e2, e3]
    refine EV.condT ?_
    simp -implicitDefEqProofs
    refine EV.seq ?_
    refine EV.regionG tabOK ?_ -- region 6
    simp -implicitDefEqProofs
    refine EV.ret ?_
    simp only [thenK_ret, blockK_ret, scopeK_ret, bodyK_ret]
    refine Fin.pure0 ?_
    simp [*]
  · skip
    have hle : (0 : Int) ≤ fn := by omega
    refine EV.regionG tabOK ?_ -- region 5
    simp -implicitDefEqProofs +contextual [e1, e2, e3, e4]
    refine callG_fun (walk21 funs cos (over_ll e1)) ?_ ?_
    · simp [*]
    simp -implicitDefEqProofs [e1, e2, e3, e4]
    refine EV.condT ?_
    simp -implicitDefEqProofs
    refine EV.seq ?_
    refine EV.regionG tabOK ?_ -- region 6
    simp -implicitDefEqProofs
    refine EV.ret ?_
    simp only [thenK_ret, blockK_ret, scopeK_ret, bodyK_ret]
    refine Fin.pure0 ?_
    simp [*]
  · skip
    have hle : (0 : Int) ≤ fn := by omega
    have hfl : fn.toNat < funs.length := by omega
    refine EV.regionG tabOK ?_ -- region 5
    simp -implicitDefEqProofs +contextual [e1, e2, e3, e4, e5, hle]
    refine callG_fun (walk21 funs cos (over_ll e1)) ?_ ?_
    · simp [*]
    simp -implicitDefEqProofs [e1, e2, e3, e4, e5, hle]
    refine EV.condT ?_
    simp -implicitDefEqProofs
    refine EV.seq ?_
    refine EV.regionG tabOK ?_ -- region 6
    simp -implicitDefEqProofs
    refine EV.ret ?_
    simp only [thenK_ret, blockK_ret, scopeK_ret, bodyK_ret]
    refine Fin.pure0 ?_
    simp [*]
  · skip
    have hle : (0 : Int) ≤ fn := by omega
    have hfl : fn.toNat < funs.length := by omega
    have e3a : ¬ fn < 0 := e3
    have e4a : ¬ (funs.length : Int) ≤ fn := by omega
    have e4b : fn < (funs.length : Int) := by omega
    have hfg : funs.getD fn.toNat [] = funs[fn.toNat] := by simp [List.getD, hfl]
    rw [hfg] at e6
    refine EV.regionG tabOK ?_ -- region 5
    simp -implicitDefEqProofs +contextual [e1, e2, e3, e4, e4b, e5, e6, hle, hfl, funC]
    refine callG_fun (walk21 funs cos (over_ll e1)) ?_ ?_
    · simp [*]
    simp -implicitDefEqProofs [e1, e2, e3, e4, e4b, e5, e6, hle, hfl, funC]
    refine EV.condT ?_
    simp -implicitDefEqProofs
    refine EV.seq ?_
    refine EV.regionG tabOK ?_ -- region 6
    simp -implicitDefEqProofs
    refine EV.ret ?_
    simp only [thenK_ret, blockK_ret, scopeK_ret, bodyK_ret]
    refine Fin.pure0 ?_
    simp [*]
  · skip
    have hle : (0 : Int) ≤ fn := by omega
    have hfl : fn.toNat < funs.length := by omega
    have e3a : ¬ fn < 0 := e3
    have e4a : ¬ (funs.length : Int) ≤ fn := by omega
    have e4b : fn < (funs.length : Int) := by omega
    have hfg : funs.getD fn.toNat [] = funs[fn.toNat] := by simp [List.getD, hfl]
    rw [hfg] at e6
    refine EV.regionG tabOK ?_ -- region 5
    simp -implicitDefEqProofs +contextual [e1, e2, e3, e4, e4b, e5, e6, hle, hfl, funC]
    refine callG_fun (walk21 funs cos (over_ll e1)) ?_ ?_
    · simp [*]
    simp -implicitDefEqProofs [e1, e2, e3, e4, e4b, e5, e6, hle, hfl, funC]
    refine EV.condT ?_
    simp -implicitDefEqProofs
    refine EV.skip ?_
    simp only [thenK_normal, blockK_normal, scopeK_normal]
    refine EV.seq ?_
    refine EV.regionG tabOK ?_ -- region 7
    simp -implicitDefEqProofs
    refine EV.seq ?_
    refine EV.seq ?_
    refine EV.regionG tabOK ?_ -- region 8
    simp -implicitDefEqProofs
    refine EV.block ?_
    refine EV.loopB ((fun i => ⟨[.junk, n fn, n at1, n how, .ptr 0 0 0 0, .junk, .junk, .junk, .junk, .b true, .junk, .ptr 1 0 0 0, n i.1, .junk, .junk, .junk, .junk, .junk, .junk, .junk, .junk, .junk, .junk, .junk, .junk, .junk, .junk, .junk, .junk, .junk, .junk, .junk, .junk, .junk, .junk, .junk, .junk, .junk, .junk, .junk, .junk, .junk, .junk, .junk, .junk, .junk, .junk, .junk, .junk, .junk, .junk, .junk, .junk, .junk, .junk, .junk, .junk, .junk, .junk, .junk, .junk, .junk, .junk, .junk, .junk, .junk, .junk, .junk, .junk, .junk, .junk, .junk, .junk, .junk, .junk, .junk, .junk, .junk, .junk, .junk, .junk, .junk, .junk, .junk, .junk, .junk, .junk, .junk, .junk, .junk, .junk, .junk, .junk, .junk, .junk, .junk, .junk, .junk, .junk, .junk, .junk, .junk, .junk, .junk, .junk, .junk, .junk, .junk, .junk, .junk, .junk], [.arr 0 2 [[.ro 1 (funs.map funC), .ro 5 (cos.map coV)]], .arr 0 2 [[.sl 2 i.1 0 i.1, .ro 5 (cos.map coV)]], .arr i.1 1 ((List.range i.1).map fun j => funC (qF funs fn at1 how j))]⟩ : { i : Nat // i ≤ funs.length ∧ (fn < i → ¬ Int.tmod how 3 < 0) } → St)) (fun i => funs.length - i.1) (⟨0, by simp, by intro h; omega⟩) ?_ ?_
    · skip
      refine Sub.trans (Sub.nilCell 1 0 0 1 (by decide) rfl rfl rfl) ?_
      simp [setOb]
      refine Sub.cutE 3 [false, true, true, true, true, false, false, false, false, true, false, true, true, false, false, false, false, false, false, false, false, false, false, false, false, false, false, false, false, false, false, false, false, false, false, false, false, false, false, false, false, false, false, false, false, false, false, false, false, false, false, false, false, false, false, false, false, false, false, false, false, false, false, false, false, false, false, false, false, false, false, false, false, false, false, false, false, false, false, false, false, false, false, false, false, false, false, false, false, false, false, false, false, false, false, false, false, false, false, false, false, false, false, false, false, false, false, false, false, false, false] (by simp) ?_ ?_ <;> simp [List.range_succ, toIdx_range, passed, keepT, *]
    · skip
      rintro ⟨i, hi, hng⟩
      simp only
      refine EV.seq ?_
      refine EV.seq ?_
      refine EV.regionG tabOK ?_ -- region 9
      simp -implicitDefEqProofs
      refine EV.condT ?_
      simp -implicitDefEqProofs
      refine condT_intro (fun h1 => ?_) (fun h1 => ?_)
      · try simp at h1
        refine EV.skip ?_
        simp only [thenK_normal, blockK_normal, scopeK_normal]
        refine EV.seq ?_
        refine EV.block ?_
        refine EV.seq ?_
        have hiF : i < funs.length := by first | assumption | omega
        refine EV.regionG tabOK ?_ -- region 11
        simp -implicitDefEqProofs
        refine EV.seq ?_
        have hof := over_f e1 (List.getElem_mem hiF)
        have hroom : roomFor funs[i].length 56 := room_of (by omega) (by decide)
        have hos := over_s e1
        refine EV.regionG tabOK ?_ -- region 12
        simp -implicitDefEqProofs [hiF, funC, hroom]
        refine EV.seqI ((fun _ => ⟨[.junk, n fn, n at1, n how, .ptr 0 0 0 0, .junk, .junk, .junk, .junk, .b true, .junk, .ptr 1 0 0 0, n i, .sl 3 0 0 funs[i].length, .junk, .junk, .junk, .junk, .junk, .junk, .junk, .junk, .junk, .junk, .junk, .junk, .junk, .junk, .junk, .junk, .junk, .junk, .junk, .junk, .junk, .junk, .junk, .junk, .junk, .junk, .junk, .junk, .junk, .junk, .junk, .junk, .junk, .junk, .junk, .junk, .junk, .junk, .junk, .junk, .junk, .junk, .junk, .junk, .junk, .junk, .junk, .junk, .junk, .junk, .junk, .junk, .junk, .junk, .junk, .junk, .junk, .junk, .junk, .junk, .junk, .junk, .junk, .junk, .junk, .junk, .junk, .junk, .junk, .junk, .junk, .junk, .junk, .junk, .junk, .junk, .junk, .junk, .junk, .junk, .junk, .junk, .junk, .junk, .junk, .junk, .junk, .junk, .junk, .junk, .junk, .junk, .junk, .junk, .junk, .junk, .junk], [.arr 0 2 [[.ro 1 (funs.map funC), .ro 5 (cos.map coV)]], .arr 0 2 [[.sl 2 i 0 i, .ro 5 (cos.map coV)]], .arr i 1 ((List.range i).map fun j => funC (qF funs fn at1 how j)), .arr 0 5 ((qF funs fn at1 how i).map insC)]⟩ : { _u : Unit // (i : Int) = fn → ¬ Int.tmod how 3 < 0 } → St)) ?_ ?_
        · skip
          refine EV.seq ?_
          refine EV.regionG tabOK ?_ -- region 13
          simp -implicitDefEqProofs
          refine EV.condT ?_
          simp -implicitDefEqProofs
          refine condT_intro (fun h2 => ?_) (fun h2 => ?_)
          · try simp at h2
            refine EV.seq ?_
            rcases tmod3 how with ⟨hm0, hm1, hm2, hm3⟩ | ⟨hm0, hm1, hm2, hm3⟩ | ⟨hm0, hm1, hm2, hm3⟩ | ⟨hm0, hm1, hm2, hm3⟩
            · skip
              have hif : i = fn.toNat := by omega
              subst hif
              have hat : at1.toNat < funs[fn.toNat].length := by omega
              have hA0 : 0 ≤ at1 := by omega
              have hA1 : at1 < (funs[fn.toNat].length : Int) := by omega
              have hq0 := qF_at (how := how) hiF hle hat
              have hqs := congrArg (List.map insC) hq0
              rw [List.map_set] at hqs
              refine EV.regionG tabOK ?_ -- region 14
              simp -implicitDefEqProofs [hat, hA0, hA1, insC]
              refine EV.seq ?_
              refine EV.seq ?_
              refine EV.regionG tabOK ?_ -- region 15
              simp -implicitDefEqProofs [hm0, hm1, hm2, hm3]
              refine EV.condT ?_
              simp -implicitDefEqProofs
              refine EV.regionG tabOK ?_ -- region 16
              simp -implicitDefEqProofs
              refine EV.seq ?_
              refine EV.seq ?_
              refine EV.regionG tabOK ?_ -- region 17
              simp -implicitDefEqProofs [hm0, hm1, hm2, hm3]
              refine EV.condT ?_
              simp -implicitDefEqProofs
              refine EV.skip ?_
              simp only [thenK_normal, blockK_normal, scopeK_normal]
              refine EV.seq ?_
              refine EV.seq ?_
              refine EV.regionG tabOK ?_ -- region 19
              simp -implicitDefEqProofs [hm0, hm1, hm2, hm3]
              refine EV.condT ?_
              simp -implicitDefEqProofs
              refine EV.skip ?_
              simp only [thenK_normal, blockK_normal, scopeK_normal]
              refine EV.seq ?_
              refine EV.seq ?_
              refine EV.regionG tabOK ?_ -- region 21
              simp -implicitDefEqProofs [hm0, hm1, hm2, hm3]
              refine EV.condT ?_
              simp -implicitDefEqProofs
              refine EV.skip ?_
              simp only [thenK_normal, blockK_normal, scopeK_normal]
              have hdummy : True := trivial
              refine EV.regionG tabOK ?_ -- region 23
              simp -implicitDefEqProofs [hat, hA0, hA1]
              refine ⟨⟨(), by first | exact fun h => absurd h (by omega) | exact fun _ => hm3⟩, ?_⟩
              refine Sub.cutE 4 [false, true, true, true, true, false, false, false, false, true, false, true, true, true, false, false, false, false, false, false, false, false, false, false, false, false, false, false, false, false, false, false, false, false, false, false, false, false, false, false, false, false, false, false, false, false, false, false, false, false, false, false, false, false, false, false, false, false, false, false, false, false, false, false, false, false, false, false, false, false, false, false, false, false, false, false, false, false, false, false, false, false, false, false, false, false, false, false, false, false, false, false, false, false, false, false, false, false, false, false, false, false, false, false, false, false, false, false, false, false, false] (by simp) ?_ ?_ <;> simp [List.range_succ, toIdx_range, passed, keepT, hqs, insC, map_insC, funC, chgI, *]
            · skip
              have hif : i = fn.toNat := by omega
              subst hif
              have hat : at1.toNat < funs[fn.toNat].length := by omega
              have hA0 : 0 ≤ at1 := by omega
              have hA1 : at1 < (funs[fn.toNat].length : Int) := by omega
              have hq0 := qF_at (how := how) hiF hle hat
              have hqs := congrArg (List.map insC) hq0
              rw [List.map_set] at hqs
              refine EV.regionG tabOK ?_ -- region 14
              simp -implicitDefEqProofs [hat, hA0, hA1, insC]
              refine EV.seq ?_
              refine EV.seq ?_
              refine EV.regionG tabOK ?_ -- region 15
              simp -implicitDefEqProofs [hm0, hm1, hm2, hm3]
              refine EV.condT ?_
              simp -implicitDefEqProofs
              refine EV.skip ?_
              simp only [thenK_normal, blockK_normal, scopeK_normal]
              refine EV.seq ?_
              refine EV.seq ?_
              refine EV.regionG tabOK ?_ -- region 17
              simp -implicitDefEqProofs [hm0, hm1, hm2, hm3]
              refine EV.condT ?_
              simp -implicitDefEqProofs
              refine EV.regionG tabOK ?_ -- region 18
              simp -implicitDefEqProofs
              refine EV.seq ?_
              refine EV.seq ?_
              refine EV.regionG tabOK ?_ -- region 19
              simp -implicitDefEqProofs [hm0, hm1, hm2, hm3]
              refine EV.condT ?_
              simp -implicitDefEqProofs
              refine EV.skip ?_
              simp only [thenK_normal, blockK_normal, scopeK_normal]
              refine EV.seq ?_
              refine EV.seq ?_
              refine EV.regionG tabOK ?_ -- region 21
              simp -implicitDefEqProofs [hm0, hm1, hm2, hm3]
              refine EV.condT ?_
              simp -implicitDefEqProofs
              refine EV.skip ?_
              simp only [thenK_normal, blockK_normal, scopeK_normal]
              have hdummy : True := trivial
              refine EV.regionG tabOK ?_ -- region 23
              simp -implicitDefEqProofs [hat, hA0, hA1]
              refine ⟨⟨(), by first | exact fun h => absurd h (by omega) | exact fun _ => hm3⟩, ?_⟩
              refine Sub.adoptR [0, 1, 2, 3] [false, true, true, true, true, false, false, false, false, true, false, true, true, true, false, false, false, false, false, false, false, false, false, false, false, false, false, false, false, false, false, false, false, false, false, false, false, false, false, false, false, false, false, false, false, false, false, false, false, false, false, false, false, false, false, false, false, false, false, false, false, false, false, false, false, false, false, false, false, false, false, false, false, false, false, false, false, false, false, false, false, false, false, false, false, false, false, false, false, false, false, false, false, false, false, false, false, false, false, false, false, false, false, false, false, false, false, false, false, false, false] 3 3 ((qF funs fn at1 how fn.toNat).map insC) (by decide) (by simp) rfl rfl ?_ ?_ ?_ ?_
              · simp [insC]
              · rw [hq0, List.map_set]
                refine allR_set ?_ _ (allR_pu (ins_pu _))
                simp only [chgI, hm0, hm1, if_true, if_false, insC]
                exact ⟨.pu trivial, .pu trivial, .pu trivial, .pu trivial, RetP.rows (by decide) rfl rfl (by simp) ⟨⟨.pu trivial, trivial⟩, trivial⟩, trivial⟩
              · simp [keepT, toIdx]
              · simp [passed, toIdx, setOb, funC]
            · skip
              have hif : i = fn.toNat := by omega
              subst hif
              have hat : at1.toNat < funs[fn.toNat].length := by omega
              have hA0 : 0 ≤ at1 := by omega
              have hA1 : at1 < (funs[fn.toNat].length : Int) := by omega
              have hq0 := qF_at (how := how) hiF hle hat
              have hqs := congrArg (List.map insC) hq0
              rw [List.map_set] at hqs
              refine EV.regionG tabOK ?_ -- region 14
              simp -implicitDefEqProofs [hat, hA0, hA1, insC]
              refine EV.seq ?_
              refine EV.seq ?_
              refine EV.regionG tabOK ?_ -- region 15
              simp -implicitDefEqProofs [hm0, hm1, hm2, hm3]
              refine EV.condT ?_
              simp -implicitDefEqProofs
              refine EV.skip ?_
              simp only [thenK_normal, blockK_normal, scopeK_normal]
              refine EV.seq ?_
              refine EV.seq ?_
              refine EV.regionG tabOK ?_ -- region 17
              simp -implicitDefEqProofs [hm0, hm1, hm2, hm3]
              refine EV.condT ?_
              simp -implicitDefEqProofs
              refine EV.skip ?_
              simp only [thenK_normal, blockK_normal, scopeK_normal]
              refine EV.seq ?_
              refine EV.seq ?_
              refine EV.regionG tabOK ?_ -- region 19
              simp -implicitDefEqProofs [hm0, hm1, hm2, hm3]
              refine EV.condT ?_
              simp -implicitDefEqProofs
              refine EV.regionG tabOK ?_ -- region 20
              simp -implicitDefEqProofs
              refine EV.seq ?_
              refine EV.seq ?_
              refine EV.regionG tabOK ?_ -- region 21
              simp -implicitDefEqProofs [hm0, hm1, hm2, hm3]
              refine EV.condT ?_
              simp -implicitDefEqProofs
              refine EV.skip ?_
              simp only [thenK_normal, blockK_normal, scopeK_normal]
              have hdummy : True := trivial
              refine EV.regionG tabOK ?_ -- region 23
              simp -implicitDefEqProofs [hat, hA0, hA1]
              refine ⟨⟨(), by first | exact fun h => absurd h (by omega) | exact fun _ => hm3⟩, ?_⟩
              refine Sub.cutE 4 [false, true, true, true, true, false, false, false, false, true, false, true, true, true, false, false, false, false, false, false, false, false, false, false, false, false, false, false, false, false, false, false, false, false, false, false, false, false, false, false, false, false, false, false, false, false, false, false, false, false, false, false, false, false, false, false, false, false, false, false, false, false, false, false, false, false, false, false, false, false, false, false, false, false, false, false, false, false, false, false, false, false, false, false, false, false, false, false, false, false, false, false, false, false, false, false, false, false, false, false, false, false, false, false, false, false, false, false, false, false, false] (by simp) ?_ ?_ <;> simp [List.range_succ, toIdx_range, passed, keepT, hqs, insC, map_insC, funC, chgI, *]
            · skip
              have hif : i = fn.toNat := by omega
              subst hif
              have hat : at1.toNat < funs[fn.toNat].length := by omega
              have hA0 : 0 ≤ at1 := by omega
              have hA1 : at1 < (funs[fn.toNat].length : Int) := by omega
              have hq0 := qF_at (how := how) hiF hle hat
              have hqs := congrArg (List.map insC) hq0
              rw [List.map_set] at hqs
              refine EV.regionG tabOK ?_ -- region 14
              simp -implicitDefEqProofs [hat, hA0, hA1, insC]
              refine EV.seq ?_
              refine EV.seq ?_
              refine EV.regionG tabOK ?_ -- region 15
              simp -implicitDefEqProofs [hm0, hm1, hm2, hm3]
              refine EV.condT ?_
              simp -implicitDefEqProofs
              refine EV.skip ?_
              simp only [thenK_normal, blockK_normal, scopeK_normal]
              refine EV.seq ?_
              refine EV.seq ?_
              refine EV.regionG tabOK ?_ -- region 17
              simp -implicitDefEqProofs [hm0, hm1, hm2, hm3]
              refine EV.condT ?_
              simp -implicitDefEqProofs
              refine EV.skip ?_
              simp only [thenK_normal, blockK_normal, scopeK_normal]
              refine EV.seq ?_
              refine EV.seq ?_
              refine EV.regionG tabOK ?_ -- region 19
              simp -implicitDefEqProofs [hm0, hm1, hm2, hm3]
              refine EV.condT ?_
              simp -implicitDefEqProofs
              refine EV.skip ?_
              simp only [thenK_normal, blockK_normal, scopeK_normal]
              refine EV.seq ?_
              refine EV.seq ?_
              refine EV.regionG tabOK ?_ -- region 21
              simp -implicitDefEqProofs [hm0, hm1, hm2, hm3]
              refine EV.condT ?_
              simp -implicitDefEqProofs
              refine EV.seq ?_
              refine EV.regionG tabOK ?_ -- region 22
              simp -implicitDefEqProofs
              refine EV.ret ?_
              simp only [thenK_ret, blockK_ret, scopeK_ret, bodyK_ret]
              refine Fin.pure0 ?_
              simp [*]
          · try simp at h2
            refine EV.skip ?_
            simp only [thenK_normal, blockK_normal, scopeK_normal]
            have hqn : qF funs fn at1 how i = funs[i] := qF_not hiF (by assumption)
            refine ⟨⟨(), by first | exact fun h => absurd h (by omega) | exact fun _ => hm3⟩, ?_⟩
            refine Sub.cutE 4 [false, true, true, true, true, false, false, false, false, true, false, true, true, true, false, false, false, false, false, false, false, false, false, false, false, false, false, false, false, false, false, false, false, false, false, false, false, false, false, false, false, false, false, false, false, false, false, false, false, false, false, false, false, false, false, false, false, false, false, false, false, false, false, false, false, false, false, false, false, false, false, false, false, false, false, false, false, false, false, false, false, false, false, false, false, false, false, false, false, false, false, false, false, false, false, false, false, false, false, false, false, false, false, false, false, false, false, false, false, false, false] (by simp) ?_ ?_ <;> simp [List.range_succ, toIdx_range, passed, keepT, hqn, insC, map_insC, funC, *]
        · skip
          rintro ⟨_, hng2⟩
          simp only
          have hroom2 : roomFor (i + 1) 24 := room_of (by omega) (by decide)
          have hti : List.take i ((List.range i).map fun j => funC (qF funs fn at1 how j)) = (List.range i).map fun j => funC (qF funs fn at1 how j) := List.take_of_length_le (by simp)
          refine EV.regionG tabOK ?_ -- region 24
          simp -implicitDefEqProofs [hroom2, hti]
          refine EV.regionG tabOK ?_ -- region 10
          simp -implicitDefEqProofs
          have hw : IntKind.i64.wrap ((i : Int) + 1) = (i : Int) + 1 := wrap_in _ (by omega) (by omega)
          refine ⟨⟨i + 1, by omega, fun h => by
            rcases Nat.lt_or_ge fn.toNat i with h9 | h9
            · exact hng (by omega)
            · exact hng2 (by omega)⟩, by simp; omega, ?_⟩
          refine Sub.adoptR [0, 1, 2] [false, true, true, true, true, false, false, false, false, true, false, true, true, false, false, false, false, false, false, false, false, false, false, false, false, false, false, false, false, false, false, false, false, false, false, false, false, false, false, false, false, false, false, false, false, false, false, false, false, false, false, false, false, false, false, false, false, false, false, false, false, false, false, false, false, false, false, false, false, false, false, false, false, false, false, false, false, false, false, false, false, false, false, false, false, false, false, false, false, false, false, false, false, false, false, false, false, false, false, false, false, false, false, false, false, false, false, false, false, false, false] 2 2 ((List.range (i + 1)).map fun j => funC (qF funs fn at1 how j)) (by decide) (by simp) rfl rfl ?_ ?_ ?_ ?_
          · intro x hx; obtain ⟨j, _, rfl⟩ := List.mem_map.1 hx; rfl
          · rw [List.range_succ, List.map_append]
            refine allR_app (allR_pu (rows_pu _ _)) ?_
            refine ⟨⟨RetP.rows (by decide) rfl (by simp [qF_len, List.getD, hiF]) (by simp [insC]) (allR_pu (ins_pu _)), trivial⟩, trivial⟩
          · simp [keepT, toIdx, hw]
          · simp [passed, toIdx, setOb, List.range_succ, funC]
      · try simp at h1
        refine EV.exit ?_
        simp -implicitDefEqProofs
        refine EV.seq ?_
        have e6g : ¬ ((funs.getD fn.toNat []).length : Int) ≤ at1 := by rw [hfg]; exact e6
        refine EV.regionG tabOK ?_ -- region 25
        simp -implicitDefEqProofs +contextual
        refine callG_lend [2] (r := .b (validB ((List.range funs.length).map (qF funs fn at1 how)) cos)) (cs' := [.ro 1 ((List.range funs.length).map fun j => funC (qF funs fn at1 how j)), .ro 5 (cos.map coV)]) rfl (by have := walk21 ((List.range funs.length).map (qF funs fn at1 how)) cos (q_ll e1); rw [List.map_map] at this; exact this) ?_ trivial ?_
        · have hiL : i = funs.length := by omega
          subst hiL
          exact ⟨View.rows (by decide) rfl (by simp) (by simp [funC]) (allR_puV (rows_pu _ _)), .pu trivial, trivial⟩
        simp -implicitDefEqProofs [one_false (cos := cos) (hng (by omega)) e3 e4 e5 e6g]
        refine EV.ret ?_
        simp only [thenK_ret, blockK_ret, scopeK_ret, bodyK_ret]
        refine Fin.pure0 ?_
        simp [*]

end Go.Proofs.Tryd
end
section
namespace Go.Proofs.YtaklafpfbhaoaaaDoor
open Go.ChangeShapes Go.WideShapes Go.ChangeAt Go.RowKit Go.AM Go.Proofs.Tryd

set_option maxRecDepth 100000 in
theorem codeOneLifted (HQ : ∀ (xs0 : List V) (z1 : Int) (z2 : Int) (z3 : Int), shp tab 6 35 xs0 → QC Tryd.prog 8 [.agg xs0, .i .i64 z1, .i .i64 z2, .i .i64 z3] [] (.b true) []) (os : Os) (started : os.Started) (H : Type) (enc : TypeId × Value → H) :
    ReturnsInHanded {} Tryd.checked os 8 .any (fun w args => (Rows.codeOneSpec.pre enc Tryd.prog Tryd.f8 Rows.codeOneRow.domain false w args ∧ laidMetH Tryd.prog Rows.codeOneRow.laid w) ∧ sizedMet enc Tryd.prog Tryd.f8 (OpenSpec.ofChange Rows.codeOneSpec) false w args)
      (Rows.codeOneSpec.post enc Tryd.prog Tryd.f8 false true false false) := by
  refine returnsInHanded_of_change_and (C := Tryd.checked) (X := fun w _ => laidMetH Tryd.prog Rows.codeOneRow.laid w) (fun _ _ _ hh h => h.of_heap hh) ownKnobNone started (by kernel_rfl) Tryd.func8
    (ChangeSpec.witness_shaped (enc := enc) (C := Tryd.checked) (os := os) (X := fun w _ => laidMetH Tryd.prog Rows.codeOneRow.laid w) false (World.laidAll Tryd.prog os Rows.codeOneRow.laid) #[.agg #[.slice none 0 0, .slice none 0 0], .int .i64 0, .int .i64 0, .int .i64 0] 8 (World.laidAll_os _ _ _)
      (World.shaped_of_ZipB (by kernel_rfl) (by kernel_rfl)) (by kernel_rfl) (by kernel_rfl) (by kernel_rfl)
      (by rw [MakeChecks.laidMetH_plain _ _ _ (by kernel_rfl)]; exact laidMet_laidAll _ (by kernel_rfl) (by kernel_rfl))) ?_
  intro W base args ds gs before hval0 hW _ _ _ _
  have hval : ∀ (j : Nat) t v, Tryd.f8.params[j]? = some t → args[j]? = some v → Value.okWide Tryd.prog W .any base t v := hval0
  have hW' := hW
  obtain ⟨p, q, hA0, hV, rfl, _, _⟩ := hW
  have hA : DataW.TrodAll enc Tryd.prog W 0 (fun _ => true) true Tryd.f8.params.toList args.toList ds p := hA0
  rw [Tryd.params8] at hA hval
  obtain ⟨v0, v1, v2, v3, d0, d1, d2, d3, p0, p1, p2, p3, rfl, rfl, rfl, h0, h1, h2, h3⟩ := trodAll_four hA
  obtain ⟨rfl, rfl⟩ := trodVars_none hV
  obtain ⟨z1, rfl, rfl, rfl, wf1⟩ := open_int (show Tryd.prog.underlying 3 = some (.int .i64) from Tryd.underlying3) (hval 1 3 v1 rfl rfl) h1
  obtain ⟨z2, rfl, rfl, rfl, wf2⟩ := open_int (show Tryd.prog.underlying 3 = some (.int .i64) from Tryd.underlying3) (hval 2 3 v2 rfl rfl) h2
  obtain ⟨z3, rfl, rfl, rfl, wf3⟩ := open_int (show Tryd.prog.underlying 3 = some (.int .i64) from Tryd.underlying3) (hval 3 3 v3 rfl rfl) h3
  simp only [List.append_nil] at hW'
  have hlt : ∀ x ∈ p0, x.block < W.heap.size := fun x hx => by simpa using hW'.lt x hx
  obtain ⟨xs0, hs0, hr0⟩ := arg_struct tabOK (T := tab) (n := 6) (t := 35) rfl (by decide +kernel) (hval 0 35 v0 rfl rfl) h0
  refine ((HQ xs0 z1 z2 z3 hs0).truth (vs := #[v0, .int .i64 z1, .int .i64 z2, .int .i64 z3]) (W := W) rfl (fun ok hok D j x u hx hu => ?_)).mono fun e W' ⟨he, hb⟩ => ?_
  · match j with
    | 0 =>
      simp only [List.getElem?_cons_succ, List.getElem?_cons_zero, Option.some.injEq] at hx
      subst hx
      obtain rfl : v0 = u := by simpa using hu
      exact hr0 ok hok D
    | 1 =>
      simp only [List.getElem?_cons_succ, List.getElem?_cons_zero, Option.some.injEq] at hx
      subst hx
      obtain rfl : Value.int .i64 z1 = u := by simpa using hu
      exact .pure (.i _ _)
    | 2 =>
      simp only [List.getElem?_cons_succ, List.getElem?_cons_zero, Option.some.injEq] at hx
      subst hx
      obtain rfl : Value.int .i64 z2 = u := by simpa using hu
      exact .pure (.i _ _)
    | 3 =>
      simp only [List.getElem?_cons_succ, List.getElem?_cons_zero, Option.some.injEq] at hx
      subst hx
      obtain rfl : Value.int .i64 z3 = u := by simpa using hu
      exact .pure (.i _ _)
    | j + 4 => simp at hx
  · subst he
    refine ⟨_, rfl, _, _, _, [], p0, [], hW', ?_, ?_, ?_, hb.frame _, fun h => by cases h⟩
    · exact trodAll_mk1 (shut_bool Tryd.underlying4 true)
    · have hpl : p0 ++ (([] : List MemPlace) ++ (([] : List MemPlace) ++ (([] : List MemPlace)))) = p0 := by simp
      rw [← hpl]
      exact trodAll_mk4 (Below.trod laidOutAll (by kernel_rfl) (of_decide_eq_true (by kernel_rfl)) h0 hb hlt) (Below.trod laidOutAll (by kernel_rfl) (of_decide_eq_true (by kernel_rfl)) h1 hb (fun x hx => by cases hx)) (Below.trod laidOutAll (by kernel_rfl) (of_decide_eq_true (by kernel_rfl)) h2 hb (fun x hx => by cases hx)) (Below.trod laidOutAll (by kernel_rfl) (of_decide_eq_true (by kernel_rfl)) h3 hb (fun x hx => by cases hx))
    · rfl

theorem codeOneHolds (HQ : ∀ (xs0 : List V) (z1 : Int) (z2 : Int) (z3 : Int), shp tab 6 35 xs0 → QC Tryd.prog 8 [.agg xs0, .i .i64 z1, .i .i64 z2, .i .i64 z3] [] (.b true) []) : Rows.CodeOneSaid :=
  OpenClaim.holds_of_wide 8 Tryd.f8 rfl rfl rfl rfl rfl rfl rfl ⟨rfl, rfl, rfl, rfl, rfl⟩ rfl rfl rfl rfl rfl (by kernel_rfl) Tryd.func8 (by kernel_rfl)
    (of_decide_eq_true (by kernel_rfl)) (by unfold Func.isWrapper; rw [if_neg (by decide +kernel)]; exact ⟨rfl, rfl⟩)
    (fun os started H enc _ => codeOneLifted HQ os started H enc)

theorem codeOneCard (HQ : ∀ (xs0 : List V) (z1 : Int) (z2 : Int) (z3 : Int), shp tab 6 35 xs0 → QC Tryd.prog 8 [.agg xs0, .i .i64 z1, .i .i64 z2, .i .i64 z3] [] (.b true) []) : Rows.CodeOneCardSaid :=
  Claim7.holds_tied_plain_at .later [] [.data, .data, .data] true (true, "e0d625a2e69adf01b107668993ea5ba20a030b330d5d389efb3f1299f4f792e2") false (codeOneHolds HQ) (fun _ h => by cases h) (by kernel_rfl) (fun _ h => by cases h) codeOne_row_tie rfl ⟨rfl, rfl⟩ (by kernel_rfl) rfl
    (fun f fn hf hfn => by
      obtain rfl : f = 8 := Option.some.inj ((show Tryd.prog.funcNamed "cocoon/cocoonlaw02.CodeOne" = some 8 by kernel_rfl).symm.trans hf) |>.symm
      obtain rfl : fn = Tryd.f8 := (Option.some.inj (Tryd.func8.symm.trans hfn)).symm
      exact ⟨by kernel_rfl, fun j t ht => by
        rw [Tryd.params8] at ht
        have hm : t ∈ [35, 3, 3, 3] := by simpa using Array.mem_of_getElem? ht
        have hall : ([35, 3, 3, 3].all fun u => !Tryd.prog.wantsStandIn u) = true := by kernel_rfl
        exact (show Tryd.prog.wantsStandIn t = false by simpa using List.all_eq_true.1 hall t hm)⟩)
    (by kernel_rfl)

theorem codeOne_card : Rows.CodeOneCardSaid := codeOneCard fun xs0 z1 z2 z3 hs0 => by
  obtain ⟨funs, cos, rfl⟩ := shp_prog (k := 0) hs0
  exact walk8 funs cos z1 z2 z3
end Go.Proofs.YtaklafpfbhaoaaaDoor
end
