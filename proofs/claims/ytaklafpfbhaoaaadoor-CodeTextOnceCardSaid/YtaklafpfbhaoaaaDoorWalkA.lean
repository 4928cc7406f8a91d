/- Contracts of single functions of the program, walked one by one: shapes, reads, writes, falls, kinds, fields, one instruction. -/
import Derived.Test.YtaklafpfbhaoaaaDoorChecked
import Derived.Eval
import Derived.Test.YtaklafpfbhaoaaaDoorMachD
import Derived.Test.YtaklafpfbhaoaaaDoorMachE
set_option linter.unusedVariables false
set_option linter.unusedSimpArgs false
set_option linter.constructorNameAsVariable false
section
namespace Go.Proofs.Tryd
open Go Go.AM
attribute [local simp] wpG_op wpG_nil contG_some wpG_guard guardG_b gval pureOp stepG_if isPick pickG_pick pickB_b pickOK isCall step_move step_assign step_alloc step_box boxV_some step_load step_store step_binOp step_unOp step_fieldAddr faV step_indexAddr ixA_slc ixA_arr step_extract extV_tup step_nilCheck ncV_ptr ncV_rp ncV_fn ncV_mp step_build buildV step_buildSlice bsV step_index ixV_arr ixV_str step_append apB step_makeSlice msV_i over step_len lenB_str lenB_ro lenB_sl lenB_nil lenB_z ld_ptr ld_rp offV_ptr offV_rp idxV_ro idxV_sl unV_not unV_neg binV_int binV_str binV_eqlb binV_neqb intOp strOp St.put updL setOb St.ev toV St.lk cellsOf valOf TK.agg stv fillV places TI.zero condT_true condT_false finS resL resSlot packV ren ren1 ren0 Value.cells builtinV appendV elemsOf keepT room_of wrap_in toIdx Ob.ren passed Function.comp_def take_len_map lenV touchOf hid tab1 tab2 tab3 tab4 tab5 tab6 tab7 tab8 tab9 tab10 tab11 tab12 tab13 tab14 tab15 tab16 tab17 tab18 tab19 tab20 tab21 tab22 tab23 tab24 tab25 tab26 tab28 tab29 tab30 tab31 tab32 tab33 tab34 tab35 tab36 tab37 tab38 tab39 tab40 tab41 tab42 tab43 tab44 tab45 tab46 tab48 tab49 tab50 tab51 tab52 tab53 tab54 tab55 tab56 tab57 tab58 tab59 tab60 tab61 tab62 tab63 tab64 tab65 tab67 tab68 tab69 tab70 tab71 tab72 tab73 tab74 tab75 tab76 tab77 tab78 tab79 tab80 tab81 tab82 tab83 tab84 tab85 tab86 tab89 tab90 tab91 tab92 tab93 tab94 tab95 tab96 tab98 tab99 tab100 tab101 tab102 tab103 tab104 tab105 tab106 tab107 tab108 tab109 tab113 tab114 tab115 tab116 tab117 tab118 tab119 tab120

abbrev n (x : Int) : V := .i .i64 x
def insV (op a b c : Int) (L : V) : V := .agg [n op, n a, n b, n c, L]

/-- An instruction's fields and how many labels it has. -/
def shape (op : Int) : (Int × Int × Int × Int) × Bool :=
  if op = 0 then ((2, 3, 0, 0), true) else if op = 1 then ((2, 4, 0, 0), true) else if op = 2 then ((2, 1, 4, 0), true)
  else if op = 3 ∨ op = 21 then ((2, 1, 0, 0), true) else if op = 24 then ((2, 1, 0, 1), true) else if op = 4 then ((1, 1, 0, 0), true)
  else if op = 5 ∨ op = 6 then ((1, 1, 4, 0), true) else if op = 7 then ((1, 0, 4, 0), true) else if op = 16 then ((2, 0, 4, 0), true)
  else if op = 8 ∨ op = 9 ∨ op = 10 then ((2, 1, 1, 1), true) else if op = 11 ∨ op = 12 then ((2, 1, 1, 0), true)
  else if op = 13 then ((0, 0, 0, 1), true) else if op = 14 ∨ op = 23 then ((1, 0, 0, 1), true) else if op = 15 then ((1, 0, 0, -1), true)
  else if op = 17 ∨ op = 18 ∨ op = 20 ∨ op = 25 then ((1, 0, 0, 0), true) else if op = 19 then ((1, 5, 0, 0), true)
  else if op = 22 then ((2, 7, 0, 0), true) else if op = 26 then ((1, 6, 0, 0), true) else if op = 27 ∨ op = 28 ∨ op = 29 then ((0, 0, 0, 0), true)
  else ((0, 0, 0, 0), false)
def shapeV (x : Int × Int × Int × Int) : V := .agg [n x.1, n x.2.1, n x.2.2.1, n x.2.2.2]

set_option linter.unusedSimpArgs false
set_option maxRecDepth 10000
set_option maxHeartbeats 4000000
theorem walk26 (op a b c : Int) (L : V) : QC prog 26 [insV op a b c L] [] (.tup [shapeV (shape op).1, .b (shape op).2]) [] := by
  refine QC.of_body tabOK func26 rfl (by kernel_rfl) ?_
  simp only [f26, insV]
  refine EV.seq ?_
  refine EV.regionG tabOK ?_ -- region 0
  simp -implicitDefEqProofs
  refine EV.seq ?_
  refine EV.seq ?_
  refine EV.regionG tabOK ?_ -- region 1
  simp -implicitDefEqProofs
  refine EV.block ?_
  refine EV.seq ?_
  refine EV.regionG tabOK ?_ -- region 2
  simp -implicitDefEqProofs
  refine EV.condT ?_
  simp -implicitDefEqProofs
  refine condT_intro (fun h1 => ?_) (fun h1 => ?_)
  · try simp at h1
    refine EV.seq ?_
    refine EV.regionG tabOK ?_ -- region 3
    simp -implicitDefEqProofs
    refine EV.ret ?_
    simp only [thenK_ret, blockK_ret, scopeK_ret, bodyK_ret]
    refine Fin.pure0 ?_
    simp [shape, shapeV, *]
  · try simp at h1
    refine EV.seq ?_
    refine EV.regionG tabOK ?_ -- region 4
    simp -implicitDefEqProofs
    refine EV.condT ?_
    simp -implicitDefEqProofs
    refine condT_intro (fun h2 => ?_) (fun h2 => ?_)
    · try simp at h2
      refine EV.seq ?_
      refine EV.regionG tabOK ?_ -- region 5
      simp -implicitDefEqProofs
      refine EV.ret ?_
      simp only [thenK_ret, blockK_ret, scopeK_ret, bodyK_ret]
      refine Fin.pure0 ?_
      simp [shape, shapeV, *]
    · try simp at h2
      refine EV.seq ?_
      refine EV.regionG tabOK ?_ -- region 6
      simp -implicitDefEqProofs
      refine EV.condT ?_
      simp -implicitDefEqProofs
      refine condT_intro (fun h3 => ?_) (fun h3 => ?_)
      · try simp at h3
        refine EV.seq ?_
        refine EV.regionG tabOK ?_ -- region 7
        simp -implicitDefEqProofs
        refine EV.ret ?_
        simp only [thenK_ret, blockK_ret, scopeK_ret, bodyK_ret]
        refine Fin.pure0 ?_
        simp [shape, shapeV, *]
      · try simp at h3
        refine EV.seq ?_
        refine EV.seq ?_
        refine EV.regionG tabOK ?_ -- region 8
        simp -implicitDefEqProofs
        refine EV.condT ?_
        simp -implicitDefEqProofs
        refine condT_intro (fun h4 => ?_) (fun h4 => ?_)
        · try simp at h4
          refine EV.skip ?_
          simp only [thenK_normal, blockK_normal, scopeK_normal]
          refine EV.condT ?_
          simp -implicitDefEqProofs
          refine EV.seq ?_
          refine EV.regionG tabOK ?_ -- region 10
          simp -implicitDefEqProofs
          refine EV.ret ?_
          simp only [thenK_ret, blockK_ret, scopeK_ret, bodyK_ret]
          refine Fin.pure0 ?_
          simp [shape, shapeV, *]
        · try simp at h4
          refine EV.regionG tabOK ?_ -- region 9
          simp -implicitDefEqProofs
          refine EV.condT ?_
          simp -implicitDefEqProofs
          refine condT_intro (fun h5 => ?_) (fun h5 => ?_)
          · try simp at h5
            refine EV.seq ?_
            refine EV.regionG tabOK ?_ -- region 10
            simp -implicitDefEqProofs
            refine EV.ret ?_
            simp only [thenK_ret, blockK_ret, scopeK_ret, bodyK_ret]
            refine Fin.pure0 ?_
            simp [shape, shapeV, *]
          · try simp at h5
            refine EV.seq ?_
            refine EV.regionG tabOK ?_ -- region 11
            simp -implicitDefEqProofs
            refine EV.condT ?_
            simp -implicitDefEqProofs
            refine condT_intro (fun h6 => ?_) (fun h6 => ?_)
            · try simp at h6
              refine EV.seq ?_
              refine EV.regionG tabOK ?_ -- region 12
              simp -implicitDefEqProofs
              refine EV.ret ?_
              simp only [thenK_ret, blockK_ret, scopeK_ret, bodyK_ret]
              refine Fin.pure0 ?_
              simp [shape, shapeV, *]
            · try simp at h6
              refine EV.seq ?_
              refine EV.regionG tabOK ?_ -- region 13
              simp -implicitDefEqProofs
              refine EV.condT ?_
              simp -implicitDefEqProofs
              refine condT_intro (fun h7 => ?_) (fun h7 => ?_)
              · try simp at h7
                refine EV.seq ?_
                refine EV.regionG tabOK ?_ -- region 14
                simp -implicitDefEqProofs
                refine EV.ret ?_
                simp only [thenK_ret, blockK_ret, scopeK_ret, bodyK_ret]
                refine Fin.pure0 ?_
                simp [shape, shapeV, *]
              · try simp at h7
                refine EV.seq ?_
                refine EV.seq ?_
                refine EV.regionG tabOK ?_ -- region 15
                simp -implicitDefEqProofs
                refine EV.condT ?_
                simp -implicitDefEqProofs
                refine condT_intro (fun h8 => ?_) (fun h8 => ?_)
                · try simp at h8
                  refine EV.skip ?_
                  simp only [thenK_normal, blockK_normal, scopeK_normal]
                  refine EV.condT ?_
                  simp -implicitDefEqProofs
                  refine EV.seq ?_
                  refine EV.regionG tabOK ?_ -- region 17
                  simp -implicitDefEqProofs
                  refine EV.ret ?_
                  simp only [thenK_ret, blockK_ret, scopeK_ret, bodyK_ret]
                  refine Fin.pure0 ?_
                  simp [shape, shapeV, *]
                · try simp at h8
                  refine EV.regionG tabOK ?_ -- region 16
                  simp -implicitDefEqProofs
                  refine EV.condT ?_
                  simp -implicitDefEqProofs
                  refine condT_intro (fun h9 => ?_) (fun h9 => ?_)
                  · try simp at h9
                    refine EV.seq ?_
                    refine EV.regionG tabOK ?_ -- region 17
                    simp -implicitDefEqProofs
                    refine EV.ret ?_
                    simp only [thenK_ret, blockK_ret, scopeK_ret, bodyK_ret]
                    refine Fin.pure0 ?_
                    simp [shape, shapeV, *]
                  · try simp at h9
                    refine EV.seq ?_
                    refine EV.regionG tabOK ?_ -- region 18
                    simp -implicitDefEqProofs
                    refine EV.condT ?_
                    simp -implicitDefEqProofs
                    refine condT_intro (fun h10 => ?_) (fun h10 => ?_)
                    · try simp at h10
                      refine EV.seq ?_
                      refine EV.regionG tabOK ?_ -- region 19
                      simp -implicitDefEqProofs
                      refine EV.ret ?_
                      simp only [thenK_ret, blockK_ret, scopeK_ret, bodyK_ret]
                      refine Fin.pure0 ?_
                      simp [shape, shapeV, *]
                    · try simp at h10
                      refine EV.seq ?_
                      refine EV.regionG tabOK ?_ -- region 20
                      simp -implicitDefEqProofs
                      refine EV.condT ?_
                      simp -implicitDefEqProofs
                      refine condT_intro (fun h11 => ?_) (fun h11 => ?_)
                      · try simp at h11
                        refine EV.seq ?_
                        refine EV.regionG tabOK ?_ -- region 21
                        simp -implicitDefEqProofs
                        refine EV.ret ?_
                        simp only [thenK_ret, blockK_ret, scopeK_ret, bodyK_ret]
                        refine Fin.pure0 ?_
                        simp [shape, shapeV, *]
                      · try simp at h11
                        refine EV.seq ?_
                        refine EV.seq ?_
                        refine EV.regionG tabOK ?_ -- region 22
                        simp -implicitDefEqProofs
                        refine EV.condT ?_
                        simp -implicitDefEqProofs
                        refine condT_intro (fun h12 => ?_) (fun h12 => ?_)
                        · try simp at h12
                          refine EV.skip ?_
                          simp only [thenK_normal, blockK_normal, scopeK_normal]
                          refine EV.condT ?_
                          simp -implicitDefEqProofs
                          refine EV.seq ?_
                          refine EV.regionG tabOK ?_ -- region 25
                          simp -implicitDefEqProofs
                          refine EV.ret ?_
                          simp only [thenK_ret, blockK_ret, scopeK_ret, bodyK_ret]
                          refine Fin.pure0 ?_
                          simp [shape, shapeV, *]
                        · try simp at h12
                          refine EV.seq ?_
                          refine EV.regionG tabOK ?_ -- region 23
                          simp -implicitDefEqProofs
                          refine EV.condT ?_
                          simp -implicitDefEqProofs
                          refine condT_intro (fun h13 => ?_) (fun h13 => ?_)
                          · try simp at h13
                            refine EV.skip ?_
                            simp only [thenK_normal, blockK_normal, scopeK_normal]
                            refine EV.condT ?_
                            simp -implicitDefEqProofs
                            refine EV.seq ?_
                            refine EV.regionG tabOK ?_ -- region 25
                            simp -implicitDefEqProofs
                            refine EV.ret ?_
                            simp only [thenK_ret, blockK_ret, scopeK_ret, bodyK_ret]
                            refine Fin.pure0 ?_
                            simp [shape, shapeV, *]
                          · try simp at h13
                            refine EV.regionG tabOK ?_ -- region 24
                            simp -implicitDefEqProofs
                            refine EV.condT ?_
                            simp -implicitDefEqProofs
                            refine condT_intro (fun h14 => ?_) (fun h14 => ?_)
                            · try simp at h14
                              refine EV.seq ?_
                              refine EV.regionG tabOK ?_ -- region 25
                              simp -implicitDefEqProofs
                              refine EV.ret ?_
                              simp only [thenK_ret, blockK_ret, scopeK_ret, bodyK_ret]
                              refine Fin.pure0 ?_
                              simp [shape, shapeV, *]
                            · try simp at h14
                              refine EV.seq ?_
                              refine EV.seq ?_
                              refine EV.regionG tabOK ?_ -- region 26
                              simp -implicitDefEqProofs
                              refine EV.condT ?_
                              simp -implicitDefEqProofs
                              refine condT_intro (fun h15 => ?_) (fun h15 => ?_)
                              · try simp at h15
                                refine EV.skip ?_
                                simp only [thenK_normal, blockK_normal, scopeK_normal]
                                refine EV.condT ?_
                                simp -implicitDefEqProofs
                                refine EV.seq ?_
                                refine EV.regionG tabOK ?_ -- region 28
                                simp -implicitDefEqProofs
                                refine EV.ret ?_
                                simp only [thenK_ret, blockK_ret, scopeK_ret, bodyK_ret]
                                refine Fin.pure0 ?_
                                simp [shape, shapeV, *]
                              · try simp at h15
                                refine EV.regionG tabOK ?_ -- region 27
                                simp -implicitDefEqProofs
                                refine EV.condT ?_
                                simp -implicitDefEqProofs
                                refine condT_intro (fun h16 => ?_) (fun h16 => ?_)
                                · try simp at h16
                                  refine EV.seq ?_
                                  refine EV.regionG tabOK ?_ -- region 28
                                  simp -implicitDefEqProofs
                                  refine EV.ret ?_
                                  simp only [thenK_ret, blockK_ret, scopeK_ret, bodyK_ret]
                                  refine Fin.pure0 ?_
                                  simp [shape, shapeV, *]
                                · try simp at h16
                                  refine EV.seq ?_
                                  refine EV.regionG tabOK ?_ -- region 29
                                  simp -implicitDefEqProofs
                                  refine EV.condT ?_
                                  simp -implicitDefEqProofs
                                  refine condT_intro (fun h17 => ?_) (fun h17 => ?_)
                                  · try simp at h17
                                    refine EV.seq ?_
                                    refine EV.regionG tabOK ?_ -- region 30
                                    simp -implicitDefEqProofs
                                    refine EV.ret ?_
                                    simp only [thenK_ret, blockK_ret, scopeK_ret, bodyK_ret]
                                    refine Fin.pure0 ?_
                                    simp [shape, shapeV, *]
                                  · try simp at h17
                                    refine EV.seq ?_
                                    refine EV.seq ?_
                                    refine EV.regionG tabOK ?_ -- region 31
                                    simp -implicitDefEqProofs
                                    refine EV.condT ?_
                                    simp -implicitDefEqProofs
                                    refine condT_intro (fun h18 => ?_) (fun h18 => ?_)
                                    · try simp at h18
                                      refine EV.skip ?_
                                      simp only [thenK_normal, blockK_normal, scopeK_normal]
                                      refine EV.condT ?_
                                      simp -implicitDefEqProofs
                                      refine EV.seq ?_
                                      refine EV.regionG tabOK ?_ -- region 33
                                      simp -implicitDefEqProofs
                                      refine EV.ret ?_
                                      simp only [thenK_ret, blockK_ret, scopeK_ret, bodyK_ret]
                                      refine Fin.pure0 ?_
                                      simp [shape, shapeV, *]
                                    · try simp at h18
                                      refine EV.regionG tabOK ?_ -- region 32
                                      simp -implicitDefEqProofs
                                      refine EV.condT ?_
                                      simp -implicitDefEqProofs
                                      refine condT_intro (fun h19 => ?_) (fun h19 => ?_)
                                      · try simp at h19
                                        refine EV.seq ?_
                                        refine EV.regionG tabOK ?_ -- region 33
                                        simp -implicitDefEqProofs
                                        refine EV.ret ?_
                                        simp only [thenK_ret, blockK_ret, scopeK_ret, bodyK_ret]
                                        refine Fin.pure0 ?_
                                        simp [shape, shapeV, *]
                                      · try simp at h19
                                        refine EV.seq ?_
                                        refine EV.regionG tabOK ?_ -- region 34
                                        simp -implicitDefEqProofs
                                        refine EV.condT ?_
                                        simp -implicitDefEqProofs
                                        refine condT_intro (fun h20 => ?_) (fun h20 => ?_)
                                        · try simp at h20
                                          refine EV.seq ?_
                                          refine EV.regionG tabOK ?_ -- region 35
                                          simp -implicitDefEqProofs
                                          refine EV.ret ?_
                                          simp only [thenK_ret, blockK_ret, scopeK_ret, bodyK_ret]
                                          refine Fin.pure0 ?_
                                          simp [shape, shapeV, *]
                                        · try simp at h20
                                          refine EV.seq ?_
                                          refine EV.seq ?_
                                          refine EV.regionG tabOK ?_ -- region 36
                                          simp -implicitDefEqProofs
                                          refine EV.condT ?_
                                          simp -implicitDefEqProofs
                                          refine condT_intro (fun h21 => ?_) (fun h21 => ?_)
                                          · try simp at h21
                                            refine EV.skip ?_
                                            simp only [thenK_normal, blockK_normal, scopeK_normal]
                                            refine EV.condT ?_
                                            simp -implicitDefEqProofs
                                            refine EV.seq ?_
                                            refine EV.regionG tabOK ?_ -- region 40
                                            simp -implicitDefEqProofs
                                            refine EV.ret ?_
                                            simp only [thenK_ret, blockK_ret, scopeK_ret, bodyK_ret]
                                            refine Fin.pure0 ?_
                                            simp [shape, shapeV, *]
                                          · try simp at h21
                                            refine EV.seq ?_
                                            refine EV.regionG tabOK ?_ -- region 37
                                            simp -implicitDefEqProofs
                                            refine EV.condT ?_
                                            simp -implicitDefEqProofs
                                            refine condT_intro (fun h22 => ?_) (fun h22 => ?_)
                                            · try simp at h22
                                              refine EV.skip ?_
                                              simp only [thenK_normal, blockK_normal, scopeK_normal]
                                              refine EV.condT ?_
                                              simp -implicitDefEqProofs
                                              refine EV.seq ?_
                                              refine EV.regionG tabOK ?_ -- region 40
                                              simp -implicitDefEqProofs
                                              refine EV.ret ?_
                                              simp only [thenK_ret, blockK_ret, scopeK_ret, bodyK_ret]
                                              refine Fin.pure0 ?_
                                              simp [shape, shapeV, *]
                                            · try simp at h22
                                              refine EV.seq ?_
                                              refine EV.regionG tabOK ?_ -- region 38
                                              simp -implicitDefEqProofs
                                              refine EV.condT ?_
                                              simp -implicitDefEqProofs
                                              refine condT_intro (fun h23 => ?_) (fun h23 => ?_)
                                              · try simp at h23
                                                refine EV.skip ?_
                                                simp only [thenK_normal, blockK_normal, scopeK_normal]
                                                refine EV.condT ?_
                                                simp -implicitDefEqProofs
                                                refine EV.seq ?_
                                                refine EV.regionG tabOK ?_ -- region 40
                                                simp -implicitDefEqProofs
                                                refine EV.ret ?_
                                                simp only [thenK_ret, blockK_ret, scopeK_ret, bodyK_ret]
                                                refine Fin.pure0 ?_
                                                simp [shape, shapeV, *]
                                              · try simp at h23
                                                refine EV.regionG tabOK ?_ -- region 39
                                                simp -implicitDefEqProofs
                                                refine EV.condT ?_
                                                simp -implicitDefEqProofs
                                                refine condT_intro (fun h24 => ?_) (fun h24 => ?_)
                                                · try simp at h24
                                                  refine EV.seq ?_
                                                  refine EV.regionG tabOK ?_ -- region 40
                                                  simp -implicitDefEqProofs
                                                  refine EV.ret ?_
                                                  simp only [thenK_ret, blockK_ret, scopeK_ret, bodyK_ret]
                                                  refine Fin.pure0 ?_
                                                  simp [shape, shapeV, *]
                                                · try simp at h24
                                                  refine EV.seq ?_
                                                  refine EV.regionG tabOK ?_ -- region 41
                                                  simp -implicitDefEqProofs
                                                  refine EV.condT ?_
                                                  simp -implicitDefEqProofs
                                                  refine condT_intro (fun h25 => ?_) (fun h25 => ?_)
                                                  · try simp at h25
                                                    refine EV.seq ?_
                                                    refine EV.regionG tabOK ?_ -- region 42
                                                    simp -implicitDefEqProofs
                                                    refine EV.ret ?_
                                                    simp only [thenK_ret, blockK_ret, scopeK_ret, bodyK_ret]
                                                    refine Fin.pure0 ?_
                                                    simp [shape, shapeV, *]
                                                  · try simp at h25
                                                    refine EV.seq ?_
                                                    refine EV.regionG tabOK ?_ -- region 43
                                                    simp -implicitDefEqProofs
                                                    refine EV.condT ?_
                                                    simp -implicitDefEqProofs
                                                    refine condT_intro (fun h26 => ?_) (fun h26 => ?_)
                                                    · try simp at h26
                                                      refine EV.seq ?_
                                                      refine EV.regionG tabOK ?_ -- region 44
                                                      simp -implicitDefEqProofs
                                                      refine EV.ret ?_
                                                      simp only [thenK_ret, blockK_ret, scopeK_ret, bodyK_ret]
                                                      refine Fin.pure0 ?_
                                                      simp [shape, shapeV, *]
                                                    · try simp at h26
                                                      refine EV.seq ?_
                                                      refine EV.regionG tabOK ?_ -- region 45
                                                      simp -implicitDefEqProofs
                                                      refine EV.condT ?_
                                                      simp -implicitDefEqProofs
                                                      refine condT_intro (fun h27 => ?_) (fun h27 => ?_)
                                                      · try simp at h27
                                                        refine EV.seq ?_
                                                        refine EV.regionG tabOK ?_ -- region 46
                                                        simp -implicitDefEqProofs
                                                        refine EV.ret ?_
                                                        simp only [thenK_ret, blockK_ret, scopeK_ret, bodyK_ret]
                                                        refine Fin.pure0 ?_
                                                        simp [shape, shapeV, *]
                                                      · try simp at h27
                                                        refine EV.seq ?_
                                                        refine EV.seq ?_
                                                        refine EV.regionG tabOK ?_ -- region 47
                                                        simp -implicitDefEqProofs
                                                        refine EV.condT ?_
                                                        simp -implicitDefEqProofs
                                                        refine condT_intro (fun h28 => ?_) (fun h28 => ?_)
                                                        · try simp at h28
                                                          refine EV.skip ?_
                                                          simp only [thenK_normal, blockK_normal, scopeK_normal]
                                                          refine EV.condT ?_
                                                          simp -implicitDefEqProofs
                                                          refine EV.seq ?_
                                                          refine EV.regionG tabOK ?_ -- region 50
                                                          simp -implicitDefEqProofs
                                                          refine EV.ret ?_
                                                          simp only [thenK_ret, blockK_ret, scopeK_ret, bodyK_ret]
                                                          refine Fin.pure0 ?_
                                                          simp [shape, shapeV, *]
                                                        · try simp at h28
                                                          refine EV.seq ?_
                                                          refine EV.regionG tabOK ?_ -- region 48
                                                          simp -implicitDefEqProofs
                                                          refine EV.condT ?_
                                                          simp -implicitDefEqProofs
                                                          refine condT_intro (fun h29 => ?_) (fun h29 => ?_)
                                                          · try simp at h29
                                                            refine EV.skip ?_
                                                            simp only [thenK_normal, blockK_normal, scopeK_normal]
                                                            refine EV.condT ?_
                                                            simp -implicitDefEqProofs
                                                            refine EV.seq ?_
                                                            refine EV.regionG tabOK ?_ -- region 50
                                                            simp -implicitDefEqProofs
                                                            refine EV.ret ?_
                                                            simp only [thenK_ret, blockK_ret, scopeK_ret, bodyK_ret]
                                                            refine Fin.pure0 ?_
                                                            simp [shape, shapeV, *]
                                                          · try simp at h29
                                                            refine EV.regionG tabOK ?_ -- region 49
                                                            simp -implicitDefEqProofs
                                                            refine EV.condT ?_
                                                            simp -implicitDefEqProofs
                                                            refine condT_intro (fun h30 => ?_) (fun h30 => ?_)
                                                            · try simp at h30
                                                              refine EV.seq ?_
                                                              refine EV.regionG tabOK ?_ -- region 50
                                                              simp -implicitDefEqProofs
                                                              refine EV.ret ?_
                                                              simp only [thenK_ret, blockK_ret, scopeK_ret, bodyK_ret]
                                                              refine Fin.pure0 ?_
                                                              simp [shape, shapeV, *]
                                                            · try simp at h30
                                                              refine EV.skip ?_
                                                              simp only [thenK_normal, blockK_normal, scopeK_normal]
                                                              refine EV.seq ?_
                                                              refine EV.regionG tabOK ?_ -- region 51
                                                              simp -implicitDefEqProofs
                                                              refine EV.ret ?_
                                                              simp only [thenK_ret, blockK_ret, scopeK_ret, bodyK_ret]
                                                              refine Fin.pure0 ?_
                                                              simp [shape, shapeV, *]
end Go.Proofs.Tryd
end
section
namespace Go.Proofs.Tryd
open Go Go.AM
attribute [local simp] wpG_op wpG_nil contG_some wpG_guard guardG_b gval pureOp stepG_if isPick pickG_pick pickB_b pickOK isCall step_move step_assign step_alloc step_box boxV_some step_load step_store step_binOp step_unOp step_fieldAddr faV step_indexAddr ixA_slc ixA_arr step_extract extV_tup step_nilCheck ncV_ptr ncV_rp ncV_fn ncV_mp step_build buildV step_buildSlice bsV step_index ixV_arr ixV_str step_append apB step_makeSlice msV_i over step_len lenB_str lenB_ro lenB_sl lenB_nil lenB_z ld_ptr ld_rp offV_ptr offV_rp idxV_ro idxV_sl unV_not unV_neg binV_int binV_str binV_eqlb binV_neqb intOp strOp St.put updL setOb St.ev toV St.lk cellsOf valOf TK.agg stv fillV places TI.zero condT_true condT_false finS resL resSlot packV ren ren1 ren0 Value.cells builtinV appendV elemsOf keepT room_of wrap_in toIdx Ob.ren passed Function.comp_def take_len_map lenV touchOf hid tab1 tab2 tab3 tab4 tab5 tab6 tab7 tab8 tab9 tab10 tab11 tab12 tab13 tab14 tab15 tab16 tab17 tab18 tab19 tab20 tab21 tab22 tab23 tab24 tab25 tab26 tab28 tab29 tab30 tab31 tab32 tab33 tab34 tab35 tab36 tab37 tab38 tab39 tab40 tab41 tab42 tab43 tab44 tab45 tab46 tab48 tab49 tab50 tab51 tab52 tab53 tab54 tab55 tab56 tab57 tab58 tab59 tab60 tab61 tab62 tab63 tab64 tab65 tab67 tab68 tab69 tab70 tab71 tab72 tab73 tab74 tab75 tab76 tab77 tab78 tab79 tab80 tab81 tab82 tab83 tab84 tab85 tab86 tab89 tab90 tab91 tab92 tab93 tab94 tab95 tab96 tab98 tab99 tab100 tab101 tab102 tab103 tab104 tab105 tab106 tab107 tab108 tab109 tab113 tab114 tab115 tab116 tab117 tab118 tab119 tab120

/-- What is read by the first fields. -/
def rd (f v : Int) : List Int := if f = 1 then [v] else []
def rdl (op a b c : Int) (i : Nat) : List Int := match i with
  | 0 => []
  | 1 => rd (shape op).1.1 a
  | 2 => rd (shape op).1.1 a ++ rd (shape op).1.2.1 b
  | _ => rd (shape op).1.1 a ++ rd (shape op).1.2.1 b ++ rd (shape op).1.2.2.1 c

theorem rd_pos (v : Int) : rd 1 v = [v] := rfl
theorem rd_neg {f v : Int} (h : ¬ f = 1) : rd f v = [] := if_neg h
theorem rd_len (f v : Int) : (rd f v).length ≤ 1 := by unfold rd; split <;> simp
theorem rdl_len (op a b c : Int) (i : Nat) : (rdl op a b c i).length ≤ 3 := by
  have h1 := rd_len (shape op).1.1 a
  have h2 := rd_len (shape op).1.2.1 b
  have h3 := rd_len (shape op).1.2.2.1 c
  unfold rdl
  split <;> first | omega | (simp only [List.length_append]; omega) | exact Nat.zero_le _

set_option linter.unusedSimpArgs false
set_option maxRecDepth 10000
set_option maxHeartbeats 4000000
theorem walk14 (op a b c : Int) (l : List Int) : QC prog 14 [insV op a b c (.ro 1 (l.map fun z => [n z]))] [] (.ro 1 ((rdl op a b c 3).map fun z => [n z])) [] := by
  refine QC.of_body tabOK func14 rfl (by kernel_rfl) ?_
  simp only [f14, insV]
  refine EV.seq ?_
  refine EV.regionG tabOK ?_ -- region 0
  simp -implicitDefEqProofs
  refine EV.seq ?_
  refine EV.regionG tabOK ?_ -- region 1
  simp -implicitDefEqProofs
  refine callG_fun (walk26 op a b c (.ro 1 (l.map fun z => [n z]))) ?_ ?_
  · simp [insV]
  simp -implicitDefEqProofs [shapeV]
  refine EV.seq ?_
  refine EV.regionG tabOK ?_ -- region 2
  simp -implicitDefEqProofs
  refine EV.seq ?_
  refine EV.seq ?_
  refine EV.regionG tabOK ?_ -- region 3
  simp -implicitDefEqProofs
  refine EV.block ?_
  refine EV.loopB ((fun x => ⟨[.junk, .ptr 0 0 0 0, .c (.slice none 0 0), .ptr 1 0 0 0, .junk, .sl 2 x.1.2 0 (rdl op a b c x.1.1).length, .junk, .junk, .junk, .junk, .junk, .junk, .junk, .junk, .junk, .junk, .junk, .junk, .junk, .agg [n (shape op).1.1, n (shape op).1.2.1, n (shape op).1.2.2.1], n x.1.1, .junk, .junk, .junk, .junk, .junk, .junk, .junk, .junk, .junk, .junk, .junk, .junk, .junk, .junk, .junk, .junk, .junk, .junk, .junk], [.arr 0 5 [[n op, n a, n b, n c, .ro 1 (l.map fun z => [n z])]], .arr 0 4 [[n (shape op).1.1, n (shape op).1.2.1, n (shape op).1.2.2.1, n (shape op).1.2.2.2]], .arr x.1.2 1 ((rdl op a b c x.1.1).map fun z => [n z])]⟩ : { x : Nat × Nat // x.1 ≤ 3 } → St)) (fun x => 4 - x.1.1) (⟨(0, 0), by simp⟩) ?_ ?_
  · skip
    refine Sub.trans (Sub.newNil 5 1 (by decide) (by simp)) ?_
    simp
    refine Sub.cutE 3 [false, true, true, true, false, true, false, false, false, false, false, false, false, false, false, false, false, false, false, true, true, false, false, false, false, false, false, false, false, false, false, false, false, false, false, false, false, false, false, false] (by simp) ?_ ?_ <;> simp [List.range_succ, toIdx_range, passed, keepT, shapeV, rdl, rd_pos, rd_neg, Nat.add_assoc, *]
  · skip
    rintro ⟨⟨i, ep⟩, hb⟩
    simp only at hb
    have hi : i = 0 ∨ i = 1 ∨ i = 2 ∨ i = 3 := by omega
    rcases hi with rfl | rfl | rfl | rfl
    · skip
      refine EV.seq ?_
      refine EV.regionG tabOK ?_ -- region 4
      simp -implicitDefEqProofs
      refine EV.seq ?_
      refine EV.condT ?_
      simp -implicitDefEqProofs
      refine EV.skip ?_
      simp only [thenK_normal, blockK_normal, scopeK_normal]
      refine EV.seq ?_
      refine EV.block ?_
      refine EV.seq ?_
      refine EV.regionG tabOK ?_ -- region 5
      simp -implicitDefEqProofs
      refine EV.seq ?_
      refine EV.regionG tabOK ?_ -- region 6
      simp -implicitDefEqProofs
      refine EV.condT ?_
      simp -implicitDefEqProofs
      refine condT_intro (fun h1 => ?_) (fun h1 => ?_)
      · try simp at h1
        have hroom : roomFor ((rdl op a b c 0).length + 1) 8 := room_of (by have := rdl_len op a b c 0; omega) (by decide)
        refine EV.regionG tabOK ?_ -- region 7
        simp -implicitDefEqProofs [hroom]
        refine EV.regionG tabOK ?_ -- region 8
        simp -implicitDefEqProofs
        refine ⟨⟨(1, ep + 1), by simp⟩, by simp, ?_⟩
        refine Sub.cutE 3 [false, true, true, true, false, true, false, false, false, false, false, false, false, false, false, false, false, false, false, true, true, false, false, false, false, false, false, false, false, false, false, false, false, false, false, false, false, false, false, false] (by simp) ?_ ?_ <;> simp [List.range_succ, toIdx_range, passed, keepT, shapeV, rdl, rd_pos, rd_neg, Nat.add_assoc, *]
      · try simp at h1
        refine EV.skip ?_
        simp only [thenK_normal, blockK_normal, scopeK_normal]
        refine EV.regionG tabOK ?_ -- region 8
        simp -implicitDefEqProofs
        refine ⟨⟨(1, ep), by simp⟩, by simp, ?_⟩
        refine Sub.cutE 3 [false, true, true, true, false, true, false, false, false, false, false, false, false, false, false, false, false, false, false, true, true, false, false, false, false, false, false, false, false, false, false, false, false, false, false, false, false, false, false, false] (by simp) ?_ ?_ <;> simp [List.range_succ, toIdx_range, passed, keepT, shapeV, rdl, rd_pos, rd_neg, Nat.add_assoc, *]
    · skip
      refine EV.seq ?_
      refine EV.regionG tabOK ?_ -- region 4
      simp -implicitDefEqProofs
      refine EV.seq ?_
      refine EV.condT ?_
      simp -implicitDefEqProofs
      refine EV.skip ?_
      simp only [thenK_normal, blockK_normal, scopeK_normal]
      refine EV.seq ?_
      refine EV.block ?_
      refine EV.seq ?_
      refine EV.regionG tabOK ?_ -- region 5
      simp -implicitDefEqProofs
      refine EV.seq ?_
      refine EV.regionG tabOK ?_ -- region 6
      simp -implicitDefEqProofs
      refine EV.condT ?_
      simp -implicitDefEqProofs
      refine condT_intro (fun h2 => ?_) (fun h2 => ?_)
      · try simp at h2
        have hroom : roomFor ((rdl op a b c 1).length + 1) 8 := room_of (by have := rdl_len op a b c 1; omega) (by decide)
        refine EV.regionG tabOK ?_ -- region 7
        simp -implicitDefEqProofs [hroom]
        refine EV.regionG tabOK ?_ -- region 8
        simp -implicitDefEqProofs
        refine ⟨⟨(2, ep + 1), by simp⟩, by simp, ?_⟩
        refine Sub.cutE 3 [false, true, true, true, false, true, false, false, false, false, false, false, false, false, false, false, false, false, false, true, true, false, false, false, false, false, false, false, false, false, false, false, false, false, false, false, false, false, false, false] (by simp) ?_ ?_ <;> simp [List.range_succ, toIdx_range, passed, keepT, shapeV, rdl, rd_pos, rd_neg, Nat.add_assoc, *]
      · try simp at h2
        refine EV.skip ?_
        simp only [thenK_normal, blockK_normal, scopeK_normal]
        refine EV.regionG tabOK ?_ -- region 8
        simp -implicitDefEqProofs
        refine ⟨⟨(2, ep), by simp⟩, by simp, ?_⟩
        refine Sub.cutE 3 [false, true, true, true, false, true, false, false, false, false, false, false, false, false, false, false, false, false, false, true, true, false, false, false, false, false, false, false, false, false, false, false, false, false, false, false, false, false, false, false] (by simp) ?_ ?_ <;> simp [List.range_succ, toIdx_range, passed, keepT, shapeV, rdl, rd_pos, rd_neg, Nat.add_assoc, *]
    · skip
      refine EV.seq ?_
      refine EV.regionG tabOK ?_ -- region 4
      simp -implicitDefEqProofs
      refine EV.seq ?_
      refine EV.condT ?_
      simp -implicitDefEqProofs
      refine EV.skip ?_
      simp only [thenK_normal, blockK_normal, scopeK_normal]
      refine EV.seq ?_
      refine EV.block ?_
      refine EV.seq ?_
      refine EV.regionG tabOK ?_ -- region 5
      simp -implicitDefEqProofs
      refine EV.seq ?_
      refine EV.regionG tabOK ?_ -- region 6
      simp -implicitDefEqProofs
      refine EV.condT ?_
      simp -implicitDefEqProofs
      refine condT_intro (fun h3 => ?_) (fun h3 => ?_)
      · try simp at h3
        have hroom : roomFor ((rdl op a b c 2).length + 1) 8 := room_of (by have := rdl_len op a b c 2; omega) (by decide)
        refine EV.regionG tabOK ?_ -- region 7
        simp -implicitDefEqProofs [hroom]
        refine EV.regionG tabOK ?_ -- region 8
        simp -implicitDefEqProofs
        refine ⟨⟨(3, ep + 1), by simp⟩, by simp, ?_⟩
        refine Sub.cutE 3 [false, true, true, true, false, true, false, false, false, false, false, false, false, false, false, false, false, false, false, true, true, false, false, false, false, false, false, false, false, false, false, false, false, false, false, false, false, false, false, false] (by simp) ?_ ?_ <;> simp [List.range_succ, toIdx_range, passed, keepT, shapeV, rdl, rd_pos, rd_neg, Nat.add_assoc, *]
      · try simp at h3
        refine EV.skip ?_
        simp only [thenK_normal, blockK_normal, scopeK_normal]
        refine EV.regionG tabOK ?_ -- region 8
        simp -implicitDefEqProofs
        refine ⟨⟨(3, ep), by simp⟩, by simp, ?_⟩
        refine Sub.cutE 3 [false, true, true, true, false, true, false, false, false, false, false, false, false, false, false, false, false, false, false, true, true, false, false, false, false, false, false, false, false, false, false, false, false, false, false, false, false, false, false, false] (by simp) ?_ ?_ <;> simp [List.range_succ, toIdx_range, passed, keepT, shapeV, rdl, rd_pos, rd_neg, Nat.add_assoc, *]
    · skip
      refine EV.seq ?_
      refine EV.regionG tabOK ?_ -- region 4
      simp -implicitDefEqProofs
      refine EV.seq ?_
      refine EV.condT ?_
      simp -implicitDefEqProofs
      refine EV.exit ?_
      simp -implicitDefEqProofs
      refine EV.seq ?_
      refine EV.regionG tabOK ?_ -- region 9
      simp -implicitDefEqProofs
      refine EV.ret ?_
      simp only [thenK_ret, blockK_ret, scopeK_ret, bodyK_ret]
      refine Fin.ro ?_ ?_ ?_ ?_
      · simp [roOf]
      · simp
      · simp [Pu]
      · simp
end Go.Proofs.Tryd
end
section
namespace Go.Proofs.Tryd
open Go Go.AM
attribute [local simp] wpG_op wpG_nil contG_some wpG_guard guardG_b gval pureOp stepG_if isPick pickG_pick pickB_b pickOK isCall step_move step_assign step_alloc step_box boxV_some step_load step_store step_binOp step_unOp step_fieldAddr faV step_indexAddr ixA_slc ixA_arr step_extract extV_tup step_nilCheck ncV_ptr ncV_rp ncV_fn ncV_mp step_build buildV step_buildSlice bsV step_index ixV_arr ixV_str step_append apB step_makeSlice msV_i over step_len lenB_str lenB_ro lenB_sl lenB_nil lenB_z ld_ptr ld_rp offV_ptr offV_rp idxV_ro idxV_sl unV_not unV_neg binV_int binV_str binV_eqlb binV_neqb intOp strOp St.put updL setOb St.ev toV St.lk cellsOf valOf TK.agg stv fillV places TI.zero condT_true condT_false finS resL resSlot packV ren ren1 ren0 Value.cells builtinV appendV elemsOf keepT room_of wrap_in toIdx Ob.ren passed Function.comp_def take_len_map lenV touchOf hid tab1 tab2 tab3 tab4 tab5 tab6 tab7 tab8 tab9 tab10 tab11 tab12 tab13 tab14 tab15 tab16 tab17 tab18 tab19 tab20 tab21 tab22 tab23 tab24 tab25 tab26 tab28 tab29 tab30 tab31 tab32 tab33 tab34 tab35 tab36 tab37 tab38 tab39 tab40 tab41 tab42 tab43 tab44 tab45 tab46 tab48 tab49 tab50 tab51 tab52 tab53 tab54 tab55 tab56 tab57 tab58 tab59 tab60 tab61 tab62 tab63 tab64 tab65 tab67 tab68 tab69 tab70 tab71 tab72 tab73 tab74 tab75 tab76 tab77 tab78 tab79 tab80 tab81 tab82 tab83 tab84 tab85 tab86 tab89 tab90 tab91 tab92 tab93 tab94 tab95 tab96 tab98 tab99 tab100 tab101 tab102 tab103 tab104 tab105 tab106 tab107 tab108 tab109 tab113 tab114 tab115 tab116 tab117 tab118 tab119 tab120
theorem mixedOK : prog.follows .mixedOrders = true := Go.Checked.mixed Go.Proofs.Tryd.checked
set_option linter.unusedSimpArgs false
set_option maxRecDepth 10000
set_option maxHeartbeats 4000000

theorem walk51 (x : Int) : QC prog 51 [n x] [] (.b (decide (0 ≤ x) && decide (x < 16))) [] := by
  refine QC.of_body tabOK func51 rfl (by kernel_rfl) ?_
  simp only [f51, insV]
  refine EV.seq ?_
  refine EV.regionG tabOK ?_ -- region 0
  simp -implicitDefEqProofs
  refine EV.seq ?_
  refine EV.regionG tabOK ?_ -- region 1
  simp -implicitDefEqProofs +contextual
  refine EV.ret ?_
  simp only [thenK_ret, blockK_ret, scopeK_ret, bodyK_ret]
  refine Fin.pure0 ?_
  simp

theorem walk37 (x y : Int) : QC prog 37 [n x, n y] [] (.b (decide (0 ≤ x) && decide (x < y))) [] := by
  refine QC.of_body tabOK func37 rfl (by kernel_rfl) ?_
  simp only [f37, insV]
  refine EV.seq ?_
  refine EV.regionG tabOK ?_ -- region 0
  simp -implicitDefEqProofs
  refine EV.seq ?_
  refine EV.regionG tabOK ?_ -- region 1
  simp -implicitDefEqProofs +contextual
  refine EV.ret ?_
  simp only [thenK_ret, blockK_ret, scopeK_ret, bodyK_ret]
  refine Fin.pure0 ?_
  simp

theorem walk27 (op a b c : Int) (l : List Int) : QC prog 27 [insV op a b c (.ro 1 (l.map fun z => [n z]))] [] (.b (decide (0 ≤ op) && decide (op ≤ 29))) [] := by
  refine QC.of_body tabOK func27 rfl (by kernel_rfl) ?_
  simp only [f27, insV]
  refine EV.seq ?_
  refine EV.regionG tabOK ?_ -- region 0
  simp -implicitDefEqProofs
  refine EV.seq ?_
  refine EV.regionG tabOK ?_ -- region 1
  simp -implicitDefEqProofs +contextual
  refine EV.ret ?_
  simp only [thenK_ret, blockK_ret, scopeK_ret, bodyK_ret]
  refine Fin.pure0 ?_
  simp

def turnedI (x : Int) : Int := if x < 1 ∨ 15 < x then x else 16 - x
theorem walk25 (x : Int) : QC prog 25 [n x] [] (n (turnedI x)) [] := by
  refine QC.of_body tabOK func25 rfl (by kernel_rfl) ?_
  simp only [f25, insV]
  refine EV.seq ?_
  refine EV.regionG tabOK ?_ -- region 0
  simp -implicitDefEqProofs
  refine EV.seq ?_
  refine EV.seq ?_
  refine EV.regionG tabOK ?_ -- region 1
  simp -implicitDefEqProofs +contextual
  refine EV.condT ?_
  simp -implicitDefEqProofs
  refine condT_intro (fun h1 => ?_) (fun h1 => ?_)
  · try simp at h1
    refine EV.seq ?_
    refine EV.regionG tabOK ?_ -- region 2
    simp -implicitDefEqProofs
    refine EV.ret ?_
    simp only [thenK_ret, blockK_ret, scopeK_ret, bodyK_ret]
    refine Fin.pure0 ?_
    simp [turnedI]
    first | omega | (rw [if_neg (by omega), wrap_in _ (by omega) (by omega)]) | skip
  · try simp at h1
    refine EV.skip ?_
    simp only [thenK_normal, blockK_normal, scopeK_normal]
    refine EV.seq ?_
    refine EV.regionG tabOK ?_ -- region 3
    simp -implicitDefEqProofs
    refine EV.ret ?_
    simp only [thenK_ret, blockK_ret, scopeK_ret, bodyK_ret]
    refine Fin.pure0 ?_
    simp [turnedI]
    first | omega | (rw [if_neg (by omega), wrap_in _ (by omega) (by omega)]) | skip

theorem walk11 (op a b c : Int) (l : List Int) : QC prog 11 [insV op a b c (.ro 1 (l.map fun z => [n z]))] [] (.tup [n (if (shape op).1.1 = 2 then a else 0), .b (decide ((shape op).1.1 = 2))]) [] := by
  refine QC.of_body tabOK func11 rfl (by kernel_rfl) ?_
  simp only [f11, insV]
  refine EV.seq ?_
  refine EV.regionG tabOK ?_ -- region 0
  simp -implicitDefEqProofs
  refine EV.seq ?_
  refine EV.seq ?_
  refine EV.regionG tabOK ?_ -- region 1
  simp -implicitDefEqProofs
  refine callG_fun (walk26 op a b c (.ro 1 (l.map fun z => [n z]))) ?_ ?_
  · simp [insV]
  simp -implicitDefEqProofs [shapeV]
  refine EV.seq ?_
  refine EV.regionG tabOK ?_ -- region 2
  simp -implicitDefEqProofs
  refine EV.condT ?_
  simp -implicitDefEqProofs
  refine condT_intro (fun h1 => ?_) (fun h1 => ?_)
  · try simp at h1
    refine EV.seq ?_
    refine EV.regionG tabOK ?_ -- region 3
    simp -implicitDefEqProofs
    refine EV.ret ?_
    simp only [thenK_ret, blockK_ret, scopeK_ret, bodyK_ret]
    refine Fin.pure0 ?_
    simp [*]
  · try simp at h1
    refine EV.skip ?_
    simp only [thenK_normal, blockK_normal, scopeK_normal]
    refine EV.seq ?_
    refine EV.regionG tabOK ?_ -- region 4
    simp -implicitDefEqProofs
    refine EV.ret ?_
    simp only [thenK_ret, blockK_ret, scopeK_ret, bodyK_ret]
    refine Fin.pure0 ?_
    simp [*]

def fallsI (op : Int) : Bool := if op = 13 ∨ op = 15 ∨ op = 27 ∨ op = 28 ∨ op = 29 then false else (shape op).2
theorem walk16 (op a b c : Int) (l : List Int) : QC prog 16 [insV op a b c (.ro 1 (l.map fun z => [n z]))] [] (.b (fallsI op)) [] := by
  refine QC.of_body tabOK func16 rfl (by kernel_rfl) ?_
  simp only [f16, insV]
  refine EV.seq ?_
  refine EV.regionG tabOK ?_ -- region 0
  simp -implicitDefEqProofs
  refine EV.seq ?_
  refine EV.seq ?_
  refine EV.regionG tabOK ?_ -- region 1
  simp -implicitDefEqProofs
  refine EV.block ?_
  refine EV.seq ?_
  refine EV.seq ?_
  refine EV.regionG tabOK ?_ -- region 2
  simp -implicitDefEqProofs
  refine EV.condT ?_
  simp -implicitDefEqProofs
  refine condT_intro (fun h1 => ?_) (fun h1 => ?_)
  · try simp at h1
    refine EV.skip ?_
    simp only [thenK_normal, blockK_normal, scopeK_normal]
    refine EV.condT ?_
    simp -implicitDefEqProofs
    refine EV.seq ?_
    refine EV.regionG tabOK ?_ -- region 7
    simp -implicitDefEqProofs
    refine EV.ret ?_
    simp only [thenK_ret, blockK_ret, scopeK_ret, bodyK_ret]
    refine Fin.pure0 ?_
    simp [fallsI, *]
  · try simp at h1
    refine EV.seq ?_
    refine EV.regionG tabOK ?_ -- region 3
    simp -implicitDefEqProofs
    refine EV.condT ?_
    simp -implicitDefEqProofs
    refine condT_intro (fun h2 => ?_) (fun h2 => ?_)
    · try simp at h2
      refine EV.skip ?_
      simp only [thenK_normal, blockK_normal, scopeK_normal]
      refine EV.condT ?_
      simp -implicitDefEqProofs
      refine EV.seq ?_
      refine EV.regionG tabOK ?_ -- region 7
      simp -implicitDefEqProofs
      refine EV.ret ?_
      simp only [thenK_ret, blockK_ret, scopeK_ret, bodyK_ret]
      refine Fin.pure0 ?_
      simp [fallsI, *]
    · try simp at h2
      refine EV.seq ?_
      refine EV.regionG tabOK ?_ -- region 4
      simp -implicitDefEqProofs
      refine EV.condT ?_
      simp -implicitDefEqProofs
      refine condT_intro (fun h3 => ?_) (fun h3 => ?_)
      · try simp at h3
        refine EV.skip ?_
        simp only [thenK_normal, blockK_normal, scopeK_normal]
        refine EV.condT ?_
        simp -implicitDefEqProofs
        refine EV.seq ?_
        refine EV.regionG tabOK ?_ -- region 7
        simp -implicitDefEqProofs
        refine EV.ret ?_
        simp only [thenK_ret, blockK_ret, scopeK_ret, bodyK_ret]
        refine Fin.pure0 ?_
        simp [fallsI, *]
      · try simp at h3
        refine EV.seq ?_
        refine EV.regionG tabOK ?_ -- region 5
        simp -implicitDefEqProofs
        refine EV.condT ?_
        simp -implicitDefEqProofs
        refine condT_intro (fun h4 => ?_) (fun h4 => ?_)
        · try simp at h4
          refine EV.skip ?_
          simp only [thenK_normal, blockK_normal, scopeK_normal]
          refine EV.condT ?_
          simp -implicitDefEqProofs
          refine EV.seq ?_
          refine EV.regionG tabOK ?_ -- region 7
          simp -implicitDefEqProofs
          refine EV.ret ?_
          simp only [thenK_ret, blockK_ret, scopeK_ret, bodyK_ret]
          refine Fin.pure0 ?_
          simp [fallsI, *]
        · try simp at h4
          refine EV.regionG tabOK ?_ -- region 6
          simp -implicitDefEqProofs
          refine EV.condT ?_
          simp -implicitDefEqProofs
          refine condT_intro (fun h5 => ?_) (fun h5 => ?_)
          · try simp at h5
            refine EV.seq ?_
            refine EV.regionG tabOK ?_ -- region 7
            simp -implicitDefEqProofs
            refine EV.ret ?_
            simp only [thenK_ret, blockK_ret, scopeK_ret, bodyK_ret]
            refine Fin.pure0 ?_
            simp [fallsI, *]
          · try simp at h5
            refine EV.skip ?_
            simp only [thenK_normal, blockK_normal, scopeK_normal]
            refine EV.seq ?_
            refine EV.regionG tabOK ?_ -- region 8
            simp -implicitDefEqProofs
            refine callG_fun (walk26 op a b c (.ro 1 (l.map fun z => [n z]))) ?_ ?_
            · simp [insV]
            simp -implicitDefEqProofs [shapeV]
            refine EV.seq ?_
            refine EV.regionG tabOK ?_ -- region 9
            simp -implicitDefEqProofs
            refine EV.ret ?_
            simp only [thenK_ret, blockK_ret, scopeK_ret, bodyK_ret]
            refine Fin.pure0 ?_
            simp [fallsI, *]

end Go.Proofs.Tryd
end
section
namespace Go.Proofs.Tryd
open Go Go.AM
attribute [local simp] wpG_op wpG_nil contG_some wpG_guard guardG_b gval pureOp stepG_if isPick pickG_pick pickB_b pickOK isCall step_move step_assign step_alloc step_box boxV_some step_load step_store step_binOp step_unOp step_fieldAddr faV step_indexAddr ixA_slc ixA_arr step_extract extV_tup step_nilCheck ncV_ptr ncV_rp ncV_fn ncV_mp step_build buildV step_buildSlice bsV step_index ixV_arr ixV_str step_append apB step_makeSlice msV_i over step_len lenB_str lenB_ro lenB_sl lenB_nil lenB_z ld_ptr ld_rp offV_ptr offV_rp idxV_ro idxV_sl unV_not unV_neg binV_int binV_str binV_eqlb binV_neqb intOp strOp St.put updL setOb St.ev toV St.lk cellsOf valOf TK.agg stv fillV places TI.zero condT_true condT_false finS resL resSlot packV ren ren1 ren0 Value.cells builtinV appendV elemsOf keepT room_of wrap_in toIdx Ob.ren passed Function.comp_def take_len_map lenV touchOf hid tab1 tab2 tab3 tab4 tab5 tab6 tab7 tab8 tab9 tab10 tab11 tab12 tab13 tab14 tab15 tab16 tab17 tab18 tab19 tab20 tab21 tab22 tab23 tab24 tab25 tab26 tab28 tab29 tab30 tab31 tab32 tab33 tab34 tab35 tab36 tab37 tab38 tab39 tab40 tab41 tab42 tab43 tab44 tab45 tab46 tab48 tab49 tab50 tab51 tab52 tab53 tab54 tab55 tab56 tab57 tab58 tab59 tab60 tab61 tab62 tab63 tab64 tab65 tab67 tab68 tab69 tab70 tab71 tab72 tab73 tab74 tab75 tab76 tab77 tab78 tab79 tab80 tab81 tab82 tab83 tab84 tab85 tab86 tab89 tab90 tab91 tab92 tab93 tab94 tab95 tab96 tab98 tab99 tab100 tab101 tab102 tab103 tab104 tab105 tab106 tab107 tab108 tab109 tab113 tab114 tab115 tab116 tab117 tab118 tab119 tab120
set_option linter.unusedSimpArgs false
set_option maxRecDepth 10000
set_option maxHeartbeats 4000000

def refW (op : Int) : Prop := op = 0 ∨ op = 1 ∨ op = 2 ∨ op = 3 ∨ op = 8 ∨ op = 9 ∨ op = 10 ∨ op = 11 ∨ op = 12 ∨ op = 16 ∨ op = 21 ∨ op = 22 ∨ op = 24
instance (op : Int) : Decidable (refW op) := by unfold refW; infer_instance
theorem walk12 (op a b c : Int) (l : List Int) : QC prog 12 [insV op a b c (.ro 1 (l.map fun z => [n z]))] [] (.tup [n (if refW op then a else 0), .b (decide (refW op))]) [] := by
  refine QC.of_body tabOK func12 rfl (by kernel_rfl) ?_
  simp only [f12, insV]
  refine EV.seq ?_
  refine EV.regionG tabOK ?_ -- region 0
  simp -implicitDefEqProofs
  refine EV.seq ?_
  refine EV.seq ?_
  refine EV.regionG tabOK ?_ -- region 1
  simp -implicitDefEqProofs
  refine EV.block ?_
  refine EV.seq ?_
  refine EV.seq ?_
  refine EV.regionG tabOK ?_ -- region 2
  simp -implicitDefEqProofs
  refine EV.condT ?_
  simp -implicitDefEqProofs
  refine condT_intro (fun h1 => ?_) (fun h1 => ?_)
  · try simp at h1
    refine EV.skip ?_
    simp only [thenK_normal, blockK_normal, scopeK_normal]
    refine EV.condT ?_
    simp -implicitDefEqProofs
    refine EV.seq ?_
    refine EV.regionG tabOK ?_ -- region 15
    simp -implicitDefEqProofs
    refine EV.ret ?_
    simp only [thenK_ret, blockK_ret, scopeK_ret, bodyK_ret]
    refine Fin.pure0 ?_
    simp [refW, *]
  · try simp at h1
    refine EV.seq ?_
    refine EV.regionG tabOK ?_ -- region 3
    simp -implicitDefEqProofs
    refine EV.condT ?_
    simp -implicitDefEqProofs
    refine condT_intro (fun h2 => ?_) (fun h2 => ?_)
    · try simp at h2
      refine EV.skip ?_
      simp only [thenK_normal, blockK_normal, scopeK_normal]
      refine EV.condT ?_
      simp -implicitDefEqProofs
      refine EV.seq ?_
      refine EV.regionG tabOK ?_ -- region 15
      simp -implicitDefEqProofs
      refine EV.ret ?_
      simp only [thenK_ret, blockK_ret, scopeK_ret, bodyK_ret]
      refine Fin.pure0 ?_
      simp [refW, *]
    · try simp at h2
      refine EV.seq ?_
      refine EV.regionG tabOK ?_ -- region 4
      simp -implicitDefEqProofs
      refine EV.condT ?_
      simp -implicitDefEqProofs
      refine condT_intro (fun h3 => ?_) (fun h3 => ?_)
      · try simp at h3
        refine EV.skip ?_
        simp only [thenK_normal, blockK_normal, scopeK_normal]
        refine EV.condT ?_
        simp -implicitDefEqProofs
        refine EV.seq ?_
        refine EV.regionG tabOK ?_ -- region 15
        simp -implicitDefEqProofs
        refine EV.ret ?_
        simp only [thenK_ret, blockK_ret, scopeK_ret, bodyK_ret]
        refine Fin.pure0 ?_
        simp [refW, *]
      · try simp at h3
        refine EV.seq ?_
        refine EV.regionG tabOK ?_ -- region 5
        simp -implicitDefEqProofs
        refine EV.condT ?_
        simp -implicitDefEqProofs
        refine condT_intro (fun h4 => ?_) (fun h4 => ?_)
        · try simp at h4
          refine EV.skip ?_
          simp only [thenK_normal, blockK_normal, scopeK_normal]
          refine EV.condT ?_
          simp -implicitDefEqProofs
          refine EV.seq ?_
          refine EV.regionG tabOK ?_ -- region 15
          simp -implicitDefEqProofs
          refine EV.ret ?_
          simp only [thenK_ret, blockK_ret, scopeK_ret, bodyK_ret]
          refine Fin.pure0 ?_
          simp [refW, *]
        · try simp at h4
          refine EV.seq ?_
          refine EV.regionG tabOK ?_ -- region 6
          simp -implicitDefEqProofs
          refine EV.condT ?_
          simp -implicitDefEqProofs
          refine condT_intro (fun h5 => ?_) (fun h5 => ?_)
          · try simp at h5
            refine EV.skip ?_
            simp only [thenK_normal, blockK_normal, scopeK_normal]
            refine EV.condT ?_
            simp -implicitDefEqProofs
            refine EV.seq ?_
            refine EV.regionG tabOK ?_ -- region 15
            simp -implicitDefEqProofs
            refine EV.ret ?_
            simp only [thenK_ret, blockK_ret, scopeK_ret, bodyK_ret]
            refine Fin.pure0 ?_
            simp [refW, *]
          · try simp at h5
            refine EV.seq ?_
            refine EV.regionG tabOK ?_ -- region 7
            simp -implicitDefEqProofs
            refine EV.condT ?_
            simp -implicitDefEqProofs
            refine condT_intro (fun h6 => ?_) (fun h6 => ?_)
            · try simp at h6
              refine EV.skip ?_
              simp only [thenK_normal, blockK_normal, scopeK_normal]
              refine EV.condT ?_
              simp -implicitDefEqProofs
              refine EV.seq ?_
              refine EV.regionG tabOK ?_ -- region 15
              simp -implicitDefEqProofs
              refine EV.ret ?_
              simp only [thenK_ret, blockK_ret, scopeK_ret, bodyK_ret]
              refine Fin.pure0 ?_
              simp [refW, *]
            · try simp at h6
              refine EV.seq ?_
              refine EV.regionG tabOK ?_ -- region 8
              simp -implicitDefEqProofs
              refine EV.condT ?_
              simp -implicitDefEqProofs
              refine condT_intro (fun h7 => ?_) (fun h7 => ?_)
              · try simp at h7
                refine EV.skip ?_
                simp only [thenK_normal, blockK_normal, scopeK_normal]
                refine EV.condT ?_
                simp -implicitDefEqProofs
                refine EV.seq ?_
                refine EV.regionG tabOK ?_ -- region 15
                simp -implicitDefEqProofs
                refine EV.ret ?_
                simp only [thenK_ret, blockK_ret, scopeK_ret, bodyK_ret]
                refine Fin.pure0 ?_
                simp [refW, *]
              · try simp at h7
                refine EV.seq ?_
                refine EV.regionG tabOK ?_ -- region 9
                simp -implicitDefEqProofs
                refine EV.condT ?_
                simp -implicitDefEqProofs
                refine condT_intro (fun h8 => ?_) (fun h8 => ?_)
                · try simp at h8
                  refine EV.skip ?_
                  simp only [thenK_normal, blockK_normal, scopeK_normal]
                  refine EV.condT ?_
                  simp -implicitDefEqProofs
                  refine EV.seq ?_
                  refine EV.regionG tabOK ?_ -- region 15
                  simp -implicitDefEqProofs
                  refine EV.ret ?_
                  simp only [thenK_ret, blockK_ret, scopeK_ret, bodyK_ret]
                  refine Fin.pure0 ?_
                  simp [refW, *]
                · try simp at h8
                  refine EV.seq ?_
                  refine EV.regionG tabOK ?_ -- region 10
                  simp -implicitDefEqProofs
                  refine EV.condT ?_
                  simp -implicitDefEqProofs
                  refine condT_intro (fun h9 => ?_) (fun h9 => ?_)
                  · try simp at h9
                    refine EV.skip ?_
                    simp only [thenK_normal, blockK_normal, scopeK_normal]
                    refine EV.condT ?_
                    simp -implicitDefEqProofs
                    refine EV.seq ?_
                    refine EV.regionG tabOK ?_ -- region 15
                    simp -implicitDefEqProofs
                    refine EV.ret ?_
                    simp only [thenK_ret, blockK_ret, scopeK_ret, bodyK_ret]
                    refine Fin.pure0 ?_
                    simp [refW, *]
                  · try simp at h9
                    refine EV.seq ?_
                    refine EV.regionG tabOK ?_ -- region 11
                    simp -implicitDefEqProofs
                    refine EV.condT ?_
                    simp -implicitDefEqProofs
                    refine condT_intro (fun h10 => ?_) (fun h10 => ?_)
                    · try simp at h10
                      refine EV.skip ?_
                      simp only [thenK_normal, blockK_normal, scopeK_normal]
                      refine EV.condT ?_
                      simp -implicitDefEqProofs
                      refine EV.seq ?_
                      refine EV.regionG tabOK ?_ -- region 15
                      simp -implicitDefEqProofs
                      refine EV.ret ?_
                      simp only [thenK_ret, blockK_ret, scopeK_ret, bodyK_ret]
                      refine Fin.pure0 ?_
                      simp [refW, *]
                    · try simp at h10
                      refine EV.seq ?_
                      refine EV.regionG tabOK ?_ -- region 12
                      simp -implicitDefEqProofs
                      refine EV.condT ?_
                      simp -implicitDefEqProofs
                      refine condT_intro (fun h11 => ?_) (fun h11 => ?_)
                      · try simp at h11
                        refine EV.skip ?_
                        simp only [thenK_normal, blockK_normal, scopeK_normal]
                        refine EV.condT ?_
                        simp -implicitDefEqProofs
                        refine EV.seq ?_
                        refine EV.regionG tabOK ?_ -- region 15
                        simp -implicitDefEqProofs
                        refine EV.ret ?_
                        simp only [thenK_ret, blockK_ret, scopeK_ret, bodyK_ret]
                        refine Fin.pure0 ?_
                        simp [refW, *]
                      · try simp at h11
                        refine EV.seq ?_
                        refine EV.regionG tabOK ?_ -- region 13
                        simp -implicitDefEqProofs
                        refine EV.condT ?_
                        simp -implicitDefEqProofs
                        refine condT_intro (fun h12 => ?_) (fun h12 => ?_)
                        · try simp at h12
                          refine EV.skip ?_
                          simp only [thenK_normal, blockK_normal, scopeK_normal]
                          refine EV.condT ?_
                          simp -implicitDefEqProofs
                          refine EV.seq ?_
                          refine EV.regionG tabOK ?_ -- region 15
                          simp -implicitDefEqProofs
                          refine EV.ret ?_
                          simp only [thenK_ret, blockK_ret, scopeK_ret, bodyK_ret]
                          refine Fin.pure0 ?_
                          simp [refW, *]
                        · try simp at h12
                          refine EV.regionG tabOK ?_ -- region 14
                          simp -implicitDefEqProofs
                          refine EV.condT ?_
                          simp -implicitDefEqProofs
                          refine condT_intro (fun h13 => ?_) (fun h13 => ?_)
                          · try simp at h13
                            refine EV.seq ?_
                            refine EV.regionG tabOK ?_ -- region 15
                            simp -implicitDefEqProofs
                            refine EV.ret ?_
                            simp only [thenK_ret, blockK_ret, scopeK_ret, bodyK_ret]
                            refine Fin.pure0 ?_
                            simp [refW, *]
                          · try simp at h13
                            refine EV.skip ?_
                            simp only [thenK_normal, blockK_normal, scopeK_normal]
                            refine EV.seq ?_
                            refine EV.regionG tabOK ?_ -- region 16
                            simp -implicitDefEqProofs
                            refine EV.ret ?_
                            simp only [thenK_ret, blockK_ret, scopeK_ret, bodyK_ret]
                            refine Fin.pure0 ?_
                            simp [refW, *]

def refR (op a b c : Int) : List Int := if op = 2 ∨ op = 3 ∨ op = 21 ∨ op = 24 then [b] else if op = 4 ∨ op = 5 ∨ op = 6 then [a, b] else if op = 8 ∨ op = 9 ∨ op = 10 ∨ op = 11 ∨ op = 12 then [b, c]
  else if op = 7 ∨ op = 14 ∨ op = 15 ∨ op = 17 ∨ op = 18 ∨ op = 20 ∨ op = 25 ∨ op = 19 ∨ op = 23 ∨ op = 26 then [a] else []
theorem walk15 (op a b c : Int) (l : List Int) : QC prog 15 [insV op a b c (.ro 1 (l.map fun z => [n z]))] [] (.ro 1 ((refR op a b c).map fun z => [n z])) [] := by
  refine QC.of_body tabOK func15 rfl (by kernel_rfl) ?_
  simp only [f15, insV]
  refine EV.seq ?_
  refine EV.regionG tabOK ?_ -- region 0
  simp -implicitDefEqProofs
  refine EV.seq ?_
  refine EV.seq ?_
  refine EV.regionG tabOK ?_ -- region 1
  simp -implicitDefEqProofs
  refine EV.block ?_
  refine EV.seq ?_
  refine EV.seq ?_
  refine EV.regionG tabOK ?_ -- region 2
  simp -implicitDefEqProofs
  refine EV.condT ?_
  simp -implicitDefEqProofs
  refine condT_intro (fun h1 => ?_) (fun h1 => ?_)
  · try simp at h1
    refine EV.skip ?_
    simp only [thenK_normal, blockK_normal, scopeK_normal]
    refine EV.condT ?_
    simp -implicitDefEqProofs
    refine EV.seq ?_
    refine EV.regionG tabOK ?_ -- region 6
    simp -implicitDefEqProofs
    refine EV.ret ?_
    simp only [thenK_ret, blockK_ret, scopeK_ret, bodyK_ret]
    refine Fin.ro ?_ ?_ ?_ ?_
    · simp [roOf, refR, List.range_succ, *]
    · simp
    · simp [Pu]
    · simp
  · try simp at h1
    refine EV.seq ?_
    refine EV.regionG tabOK ?_ -- region 3
    simp -implicitDefEqProofs
    refine EV.condT ?_
    simp -implicitDefEqProofs
    refine condT_intro (fun h2 => ?_) (fun h2 => ?_)
    · try simp at h2
      refine EV.skip ?_
      simp only [thenK_normal, blockK_normal, scopeK_normal]
      refine EV.condT ?_
      simp -implicitDefEqProofs
      refine EV.seq ?_
      refine EV.regionG tabOK ?_ -- region 6
      simp -implicitDefEqProofs
      refine EV.ret ?_
      simp only [thenK_ret, blockK_ret, scopeK_ret, bodyK_ret]
      refine Fin.ro ?_ ?_ ?_ ?_
      · simp [roOf, refR, List.range_succ, *]
      · simp
      · simp [Pu]
      · simp
    · try simp at h2
      refine EV.seq ?_
      refine EV.regionG tabOK ?_ -- region 4
      simp -implicitDefEqProofs
      refine EV.condT ?_
      simp -implicitDefEqProofs
      refine condT_intro (fun h3 => ?_) (fun h3 => ?_)
      · try simp at h3
        refine EV.skip ?_
        simp only [thenK_normal, blockK_normal, scopeK_normal]
        refine EV.condT ?_
        simp -implicitDefEqProofs
        refine EV.seq ?_
        refine EV.regionG tabOK ?_ -- region 6
        simp -implicitDefEqProofs
        refine EV.ret ?_
        simp only [thenK_ret, blockK_ret, scopeK_ret, bodyK_ret]
        refine Fin.ro ?_ ?_ ?_ ?_
        · simp [roOf, refR, List.range_succ, *]
        · simp
        · simp [Pu]
        · simp
      · try simp at h3
        refine EV.regionG tabOK ?_ -- region 5
        simp -implicitDefEqProofs
        refine EV.condT ?_
        simp -implicitDefEqProofs
        refine condT_intro (fun h4 => ?_) (fun h4 => ?_)
        · try simp at h4
          refine EV.seq ?_
          refine EV.regionG tabOK ?_ -- region 6
          simp -implicitDefEqProofs
          refine EV.ret ?_
          simp only [thenK_ret, blockK_ret, scopeK_ret, bodyK_ret]
          refine Fin.ro ?_ ?_ ?_ ?_
          · simp [roOf, refR, List.range_succ, *]
          · simp
          · simp [Pu]
          · simp
        · try simp at h4
          refine EV.seq ?_
          refine EV.seq ?_
          refine EV.regionG tabOK ?_ -- region 7
          simp -implicitDefEqProofs
          refine EV.condT ?_
          simp -implicitDefEqProofs
          refine condT_intro (fun h5 => ?_) (fun h5 => ?_)
          · try simp at h5
            refine EV.skip ?_
            simp only [thenK_normal, blockK_normal, scopeK_normal]
            refine EV.condT ?_
            simp -implicitDefEqProofs
            refine EV.seq ?_
            refine EV.regionG tabOK ?_ -- region 10
            simp -implicitDefEqProofs
            refine EV.ret ?_
            simp only [thenK_ret, blockK_ret, scopeK_ret, bodyK_ret]
            refine Fin.ro ?_ ?_ ?_ ?_
            · simp [roOf, refR, List.range_succ, *]
            · simp
            · simp [Pu]
            · simp
          · try simp at h5
            refine EV.seq ?_
            refine EV.regionG tabOK ?_ -- region 8
            simp -implicitDefEqProofs
            refine EV.condT ?_
            simp -implicitDefEqProofs
            refine condT_intro (fun h6 => ?_) (fun h6 => ?_)
            · try simp at h6
              refine EV.skip ?_
              simp only [thenK_normal, blockK_normal, scopeK_normal]
              refine EV.condT ?_
              simp -implicitDefEqProofs
              refine EV.seq ?_
              refine EV.regionG tabOK ?_ -- region 10
              simp -implicitDefEqProofs
              refine EV.ret ?_
              simp only [thenK_ret, blockK_ret, scopeK_ret, bodyK_ret]
              refine Fin.ro ?_ ?_ ?_ ?_
              · simp [roOf, refR, List.range_succ, *]
              · simp
              · simp [Pu]
              · simp
            · try simp at h6
              refine EV.regionG tabOK ?_ -- region 9
              simp -implicitDefEqProofs
              refine EV.condT ?_
              simp -implicitDefEqProofs
              refine condT_intro (fun h7 => ?_) (fun h7 => ?_)
              · try simp at h7
                refine EV.seq ?_
                refine EV.regionG tabOK ?_ -- region 10
                simp -implicitDefEqProofs
                refine EV.ret ?_
                simp only [thenK_ret, blockK_ret, scopeK_ret, bodyK_ret]
                refine Fin.ro ?_ ?_ ?_ ?_
                · simp [roOf, refR, List.range_succ, *]
                · simp
                · simp [Pu]
                · simp
              · try simp at h7
                refine EV.seq ?_
                refine EV.seq ?_
                refine EV.regionG tabOK ?_ -- region 11
                simp -implicitDefEqProofs
                refine EV.condT ?_
                simp -implicitDefEqProofs
                refine condT_intro (fun h8 => ?_) (fun h8 => ?_)
                · try simp at h8
                  refine EV.skip ?_
                  simp only [thenK_normal, blockK_normal, scopeK_normal]
                  refine EV.condT ?_
                  simp -implicitDefEqProofs
                  refine EV.seq ?_
                  refine EV.regionG tabOK ?_ -- region 16
                  simp -implicitDefEqProofs
                  refine EV.ret ?_
                  simp only [thenK_ret, blockK_ret, scopeK_ret, bodyK_ret]
                  refine Fin.ro ?_ ?_ ?_ ?_
                  · simp [roOf, refR, List.range_succ, *]
                  · simp
                  · simp [Pu]
                  · simp
                · try simp at h8
                  refine EV.seq ?_
                  refine EV.regionG tabOK ?_ -- region 12
                  simp -implicitDefEqProofs
                  refine EV.condT ?_
                  simp -implicitDefEqProofs
                  refine condT_intro (fun h9 => ?_) (fun h9 => ?_)
                  · try simp at h9
                    refine EV.skip ?_
                    simp only [thenK_normal, blockK_normal, scopeK_normal]
                    refine EV.condT ?_
                    simp -implicitDefEqProofs
                    refine EV.seq ?_
                    refine EV.regionG tabOK ?_ -- region 16
                    simp -implicitDefEqProofs
                    refine EV.ret ?_
                    simp only [thenK_ret, blockK_ret, scopeK_ret, bodyK_ret]
                    refine Fin.ro ?_ ?_ ?_ ?_
                    · simp [roOf, refR, List.range_succ, *]
                    · simp
                    · simp [Pu]
                    · simp
                  · try simp at h9
                    refine EV.seq ?_
                    refine EV.regionG tabOK ?_ -- region 13
                    simp -implicitDefEqProofs
                    refine EV.condT ?_
                    simp -implicitDefEqProofs
                    refine condT_intro (fun h10 => ?_) (fun h10 => ?_)
                    · try simp at h10
                      refine EV.skip ?_
                      simp only [thenK_normal, blockK_normal, scopeK_normal]
                      refine EV.condT ?_
                      simp -implicitDefEqProofs
                      refine EV.seq ?_
                      refine EV.regionG tabOK ?_ -- region 16
                      simp -implicitDefEqProofs
                      refine EV.ret ?_
                      simp only [thenK_ret, blockK_ret, scopeK_ret, bodyK_ret]
                      refine Fin.ro ?_ ?_ ?_ ?_
                      · simp [roOf, refR, List.range_succ, *]
                      · simp
                      · simp [Pu]
                      · simp
                    · try simp at h10
                      refine EV.seq ?_
                      refine EV.regionG tabOK ?_ -- region 14
                      simp -implicitDefEqProofs
                      refine EV.condT ?_
                      simp -implicitDefEqProofs
                      refine condT_intro (fun h11 => ?_) (fun h11 => ?_)
                      · try simp at h11
                        refine EV.skip ?_
                        simp only [thenK_normal, blockK_normal, scopeK_normal]
                        refine EV.condT ?_
                        simp -implicitDefEqProofs
                        refine EV.seq ?_
                        refine EV.regionG tabOK ?_ -- region 16
                        simp -implicitDefEqProofs
                        refine EV.ret ?_
                        simp only [thenK_ret, blockK_ret, scopeK_ret, bodyK_ret]
                        refine Fin.ro ?_ ?_ ?_ ?_
                        · simp [roOf, refR, List.range_succ, *]
                        · simp
                        · simp [Pu]
                        · simp
                      · try simp at h11
                        refine EV.regionG tabOK ?_ -- region 15
                        simp -implicitDefEqProofs
                        refine EV.condT ?_
                        simp -implicitDefEqProofs
                        refine condT_intro (fun h12 => ?_) (fun h12 => ?_)
                        · try simp at h12
                          refine EV.seq ?_
                          refine EV.regionG tabOK ?_ -- region 16
                          simp -implicitDefEqProofs
                          refine EV.ret ?_
                          simp only [thenK_ret, blockK_ret, scopeK_ret, bodyK_ret]
                          refine Fin.ro ?_ ?_ ?_ ?_
                          · simp [roOf, refR, List.range_succ, *]
                          · simp
                          · simp [Pu]
                          · simp
                        · try simp at h12
                          refine EV.seq ?_
                          refine EV.seq ?_
                          refine EV.regionG tabOK ?_ -- region 17
                          simp -implicitDefEqProofs
                          refine EV.condT ?_
                          simp -implicitDefEqProofs
                          refine condT_intro (fun h13 => ?_) (fun h13 => ?_)
                          · try simp at h13
                            refine EV.skip ?_
                            simp only [thenK_normal, blockK_normal, scopeK_normal]
                            refine EV.condT ?_
                            simp -implicitDefEqProofs
                            refine EV.seq ?_
                            refine EV.regionG tabOK ?_ -- region 27
                            simp -implicitDefEqProofs
                            refine EV.ret ?_
                            simp only [thenK_ret, blockK_ret, scopeK_ret, bodyK_ret]
                            refine Fin.ro ?_ ?_ ?_ ?_
                            · simp [roOf, refR, List.range_succ, *]
                            · simp
                            · simp [Pu]
                            · simp
                          · try simp at h13
                            refine EV.seq ?_
                            refine EV.regionG tabOK ?_ -- region 18
                            simp -implicitDefEqProofs
                            refine EV.condT ?_
                            simp -implicitDefEqProofs
                            refine condT_intro (fun h14 => ?_) (fun h14 => ?_)
                            · try simp at h14
                              refine EV.skip ?_
                              simp only [thenK_normal, blockK_normal, scopeK_normal]
                              refine EV.condT ?_
                              simp -implicitDefEqProofs
                              refine EV.seq ?_
                              refine EV.regionG tabOK ?_ -- region 27
                              simp -implicitDefEqProofs
                              refine EV.ret ?_
                              simp only [thenK_ret, blockK_ret, scopeK_ret, bodyK_ret]
                              refine Fin.ro ?_ ?_ ?_ ?_
                              · simp [roOf, refR, List.range_succ, *]
                              · simp
                              · simp [Pu]
                              · simp
                            · try simp at h14
                              refine EV.seq ?_
                              refine EV.regionG tabOK ?_ -- region 19
                              simp -implicitDefEqProofs
                              refine EV.condT ?_
                              simp -implicitDefEqProofs
                              refine condT_intro (fun h15 => ?_) (fun h15 => ?_)
                              · try simp at h15
                                refine EV.skip ?_
                                simp only [thenK_normal, blockK_normal, scopeK_normal]
                                refine EV.condT ?_
                                simp -implicitDefEqProofs
                                refine EV.seq ?_
                                refine EV.regionG tabOK ?_ -- region 27
                                simp -implicitDefEqProofs
                                refine EV.ret ?_
                                simp only [thenK_ret, blockK_ret, scopeK_ret, bodyK_ret]
                                refine Fin.ro ?_ ?_ ?_ ?_
                                · simp [roOf, refR, List.range_succ, *]
                                · simp
                                · simp [Pu]
                                · simp
                              · try simp at h15
                                refine EV.seq ?_
                                refine EV.regionG tabOK ?_ -- region 20
                                simp -implicitDefEqProofs
                                refine EV.condT ?_
                                simp -implicitDefEqProofs
                                refine condT_intro (fun h16 => ?_) (fun h16 => ?_)
                                · try simp at h16
                                  refine EV.skip ?_
                                  simp only [thenK_normal, blockK_normal, scopeK_normal]
                                  refine EV.condT ?_
                                  simp -implicitDefEqProofs
                                  refine EV.seq ?_
                                  refine EV.regionG tabOK ?_ -- region 27
                                  simp -implicitDefEqProofs
                                  refine EV.ret ?_
                                  simp only [thenK_ret, blockK_ret, scopeK_ret, bodyK_ret]
                                  refine Fin.ro ?_ ?_ ?_ ?_
                                  · simp [roOf, refR, List.range_succ, *]
                                  · simp
                                  · simp [Pu]
                                  · simp
                                · try simp at h16
                                  refine EV.seq ?_
                                  refine EV.regionG tabOK ?_ -- region 21
                                  simp -implicitDefEqProofs
                                  refine EV.condT ?_
                                  simp -implicitDefEqProofs
                                  refine condT_intro (fun h17 => ?_) (fun h17 => ?_)
                                  · try simp at h17
                                    refine EV.skip ?_
                                    simp only [thenK_normal, blockK_normal, scopeK_normal]
                                    refine EV.condT ?_
                                    simp -implicitDefEqProofs
                                    refine EV.seq ?_
                                    refine EV.regionG tabOK ?_ -- region 27
                                    simp -implicitDefEqProofs
                                    refine EV.ret ?_
                                    simp only [thenK_ret, blockK_ret, scopeK_ret, bodyK_ret]
                                    refine Fin.ro ?_ ?_ ?_ ?_
                                    · simp [roOf, refR, List.range_succ, *]
                                    · simp
                                    · simp [Pu]
                                    · simp
                                  · try simp at h17
                                    refine EV.seq ?_
                                    refine EV.regionG tabOK ?_ -- region 22
                                    simp -implicitDefEqProofs
                                    refine EV.condT ?_
                                    simp -implicitDefEqProofs
                                    refine condT_intro (fun h18 => ?_) (fun h18 => ?_)
                                    · try simp at h18
                                      refine EV.skip ?_
                                      simp only [thenK_normal, blockK_normal, scopeK_normal]
                                      refine EV.condT ?_
                                      simp -implicitDefEqProofs
                                      refine EV.seq ?_
                                      refine EV.regionG tabOK ?_ -- region 27
                                      simp -implicitDefEqProofs
                                      refine EV.ret ?_
                                      simp only [thenK_ret, blockK_ret, scopeK_ret, bodyK_ret]
                                      refine Fin.ro ?_ ?_ ?_ ?_
                                      · simp [roOf, refR, List.range_succ, *]
                                      · simp
                                      · simp [Pu]
                                      · simp
                                    · try simp at h18
                                      refine EV.seq ?_
                                      refine EV.regionG tabOK ?_ -- region 23
                                      simp -implicitDefEqProofs
                                      refine EV.condT ?_
                                      simp -implicitDefEqProofs
                                      refine condT_intro (fun h19 => ?_) (fun h19 => ?_)
                                      · try simp at h19
                                        refine EV.skip ?_
                                        simp only [thenK_normal, blockK_normal, scopeK_normal]
                                        refine EV.condT ?_
                                        simp -implicitDefEqProofs
                                        refine EV.seq ?_
                                        refine EV.regionG tabOK ?_ -- region 27
                                        simp -implicitDefEqProofs
                                        refine EV.ret ?_
                                        simp only [thenK_ret, blockK_ret, scopeK_ret, bodyK_ret]
                                        refine Fin.ro ?_ ?_ ?_ ?_
                                        · simp [roOf, refR, List.range_succ, *]
                                        · simp
                                        · simp [Pu]
                                        · simp
                                      · try simp at h19
                                        refine EV.seq ?_
                                        refine EV.regionG tabOK ?_ -- region 24
                                        simp -implicitDefEqProofs
                                        refine EV.condT ?_
                                        simp -implicitDefEqProofs
                                        refine condT_intro (fun h20 => ?_) (fun h20 => ?_)
                                        · try simp at h20
                                          refine EV.skip ?_
                                          simp only [thenK_normal, blockK_normal, scopeK_normal]
                                          refine EV.condT ?_
                                          simp -implicitDefEqProofs
                                          refine EV.seq ?_
                                          refine EV.regionG tabOK ?_ -- region 27
                                          simp -implicitDefEqProofs
                                          refine EV.ret ?_
                                          simp only [thenK_ret, blockK_ret, scopeK_ret, bodyK_ret]
                                          refine Fin.ro ?_ ?_ ?_ ?_
                                          · simp [roOf, refR, List.range_succ, *]
                                          · simp
                                          · simp [Pu]
                                          · simp
                                        · try simp at h20
                                          refine EV.seq ?_
                                          refine EV.regionG tabOK ?_ -- region 25
                                          simp -implicitDefEqProofs
                                          refine EV.condT ?_
                                          simp -implicitDefEqProofs
                                          refine condT_intro (fun h21 => ?_) (fun h21 => ?_)
                                          · try simp at h21
                                            refine EV.skip ?_
                                            simp only [thenK_normal, blockK_normal, scopeK_normal]
                                            refine EV.condT ?_
                                            simp -implicitDefEqProofs
                                            refine EV.seq ?_
                                            refine EV.regionG tabOK ?_ -- region 27
                                            simp -implicitDefEqProofs
                                            refine EV.ret ?_
                                            simp only [thenK_ret, blockK_ret, scopeK_ret, bodyK_ret]
                                            refine Fin.ro ?_ ?_ ?_ ?_
                                            · simp [roOf, refR, List.range_succ, *]
                                            · simp
                                            · simp [Pu]
                                            · simp
                                          · try simp at h21
                                            refine EV.regionG tabOK ?_ -- region 26
                                            simp -implicitDefEqProofs
                                            refine EV.condT ?_
                                            simp -implicitDefEqProofs
                                            refine condT_intro (fun h22 => ?_) (fun h22 => ?_)
                                            · try simp at h22
                                              refine EV.seq ?_
                                              refine EV.regionG tabOK ?_ -- region 27
                                              simp -implicitDefEqProofs
                                              refine EV.ret ?_
                                              simp only [thenK_ret, blockK_ret, scopeK_ret, bodyK_ret]
                                              refine Fin.ro ?_ ?_ ?_ ?_
                                              · simp [roOf, refR, List.range_succ, *]
                                              · simp
                                              · simp [Pu]
                                              · simp
                                            · try simp at h22
                                              refine EV.skip ?_
                                              simp only [thenK_normal, blockK_normal, scopeK_normal]
                                              refine EV.seq ?_
                                              refine EV.regionG tabOK ?_ -- region 28
                                              simp -implicitDefEqProofs
                                              refine EV.ret ?_
                                              simp only [thenK_ret, blockK_ret, scopeK_ret, bodyK_ret]
                                              refine Fin.ro ?_ ?_ ?_ ?_
                                              · simp [roOf, refR, List.range_succ, *]
                                              · simp
                                              · simp [Pu]
                                              · simp

def refF (op : Int) : Bool := (decide (0 ≤ op) && decide (op ≤ 29)) && (!decide (op = 13) && !decide (op = 15) && !decide (op = 27) && !decide (op = 28) && !decide (op = 29))
theorem walk17 (op a b c : Int) (l : List Int) : QC prog 17 [insV op a b c (.ro 1 (l.map fun z => [n z]))] [] (.b (refF op)) [] := by
  refine QC.of_body tabOK func17 rfl (by kernel_rfl) ?_
  simp only [f17, insV]
  refine EV.seq ?_
  refine EV.regionG tabOK ?_ -- region 0
  simp -implicitDefEqProofs
  refine EV.seq ?_
  refine EV.seq ?_
  refine EV.regionG tabOK ?_ -- region 1
  simp -implicitDefEqProofs
  refine callG_fun (walk27 op a b c l) ?_ ?_
  · simp [insV]
  simp -implicitDefEqProofs +contextual
  refine EV.condT ?_
  simp -implicitDefEqProofs
  refine condT_intro (fun h1 => ?_) (fun h1 => ?_)
  · try simp at h1
    refine EV.seq ?_
    refine EV.regionG tabOK ?_ -- region 2
    simp -implicitDefEqProofs
    refine EV.ret ?_
    simp only [thenK_ret, blockK_ret, scopeK_ret, bodyK_ret]
    refine Fin.pure0 ?_
    simp [refF, *]
    try omega
  · try simp at h1
    refine EV.skip ?_
    simp only [thenK_normal, blockK_normal, scopeK_normal]
    refine EV.seq ?_
    refine EV.regionG tabOK ?_ -- region 3
    simp -implicitDefEqProofs +contextual
    refine EV.ret ?_
    simp only [thenK_ret, blockK_ret, scopeK_ret, bodyK_ret]
    refine Fin.pure0 ?_
    simp [refF, *]
    try omega

end Go.Proofs.Tryd
end
section
namespace Go.Proofs.Tryd
open Go Go.AM
attribute [local simp] wpG_op wpG_nil contG_some wpG_guard guardG_b gval pureOp stepG_if isPick pickG_pick pickB_b pickOK isCall step_move step_assign step_alloc step_box boxV_some step_load step_store step_binOp step_unOp step_fieldAddr faV step_indexAddr ixA_slc ixA_arr step_extract extV_tup step_nilCheck ncV_ptr ncV_rp ncV_fn ncV_mp step_build buildV step_buildSlice bsV step_index ixV_arr ixV_str step_append apB step_makeSlice msV_i over step_len lenB_str lenB_ro lenB_sl lenB_nil lenB_z ld_ptr ld_rp offV_ptr offV_rp idxV_ro idxV_sl unV_not unV_neg binV_int binV_str binV_eqlb binV_neqb intOp strOp St.put updL setOb St.ev toV St.lk cellsOf valOf TK.agg stv fillV places TI.zero condT_true condT_false finS resL resSlot packV ren ren1 ren0 Value.cells builtinV appendV elemsOf keepT room_of wrap_in toIdx Ob.ren passed Function.comp_def take_len_map lenV touchOf hid tab1 tab2 tab3 tab4 tab5 tab6 tab7 tab8 tab9 tab10 tab11 tab12 tab13 tab14 tab15 tab16 tab17 tab18 tab19 tab20 tab21 tab22 tab23 tab24 tab25 tab26 tab28 tab29 tab30 tab31 tab32 tab33 tab34 tab35 tab36 tab37 tab38 tab39 tab40 tab41 tab42 tab43 tab44 tab45 tab46 tab48 tab49 tab50 tab51 tab52 tab53 tab54 tab55 tab56 tab57 tab58 tab59 tab60 tab61 tab62 tab63 tab64 tab65 tab67 tab68 tab69 tab70 tab71 tab72 tab73 tab74 tab75 tab76 tab77 tab78 tab79 tab80 tab81 tab82 tab83 tab84 tab85 tab86 tab89 tab90 tab91 tab92 tab93 tab94 tab95 tab96 tab98 tab99 tab100 tab101 tab102 tab103 tab104 tab105 tab106 tab107 tab108 tab109 tab113 tab114 tab115 tab116 tab117 tab118 tab119 tab120
set_option linter.unusedSimpArgs false
set_option maxRecDepth 10000
set_option maxHeartbeats 4000000
theorem rowNext {xs ys : List Int} {i : Nat} (hx : i < xs.length) (hy : i < ys.length) (h : xs[i] = ys[i]) (ht : xs.take i = ys.take i) : xs.take (i + 1) = ys.take (i + 1) := by
  rw [← List.take_append_getElem hx, ← List.take_append_getElem hy, ht, h]
theorem rowEnd {xs ys : List Int} {i : Nat} (h1 : (xs.length : Int) = ys.length) (h2 : xs.length ≤ i) (ht : xs.take i = ys.take i) : xs = ys := by
  rw [List.take_of_length_le h2, List.take_of_length_le (by omega)] at ht
  exact ht
theorem walk13 (xs ys : List Int) (hx : xs.length ≤ 9223372036854775807) : QC prog 13 [.ro 1 (xs.map fun z => [n z]), .ro 1 (ys.map fun z => [n z])] [] (.b (decide (xs = ys))) [] := by
  refine QC.of_body tabOK func13 rfl (by kernel_rfl) ?_
  simp only [f13]
  refine EV.seq ?_
  refine EV.regionG tabOK ?_ -- region 0
  simp -implicitDefEqProofs
  refine EV.seq ?_
  refine EV.seq ?_
  refine EV.regionG tabOK ?_ -- region 1
  simp -implicitDefEqProofs
  refine EV.condT ?_
  simp -implicitDefEqProofs
  refine condT_intro (fun h1 => ?_) (fun h1 => ?_)
  · try simp at h1
    refine EV.seq ?_
    refine EV.regionG tabOK ?_ -- region 2
    simp -implicitDefEqProofs
    refine EV.ret ?_
    simp only [thenK_ret, blockK_ret, scopeK_ret, bodyK_ret]
    refine Fin.pure0 ?_
    simp -implicitDefEqProofs
    first | (intro h; subst h; exact absurd rfl h1) | (intro h; subst h; exact absurd rfl h3) | exact rowEnd h1 h2 ht
  · try simp at h1
    refine EV.skip ?_
    simp only [thenK_normal, blockK_normal, scopeK_normal]
    refine EV.seq ?_
    refine EV.seq ?_
    refine EV.regionG tabOK ?_ -- region 3
    simp -implicitDefEqProofs
    refine EV.block ?_
    refine EV.loopB ((fun x => ⟨[.ro 1 (xs.map fun z => [n z]), .ro 1 (ys.map fun z => [n z]), .junk, .junk, .b false, n x.1, .junk, .junk, .junk, .junk, .junk, .junk, .junk, .junk, .junk, .junk, .junk, .junk, .junk, .junk, .junk, .junk, .junk, .junk, .junk, .junk], []⟩ : { i : Nat // i ≤ xs.length ∧ xs.take i = ys.take i } → St)) (fun x => xs.length - x.1) (⟨0, by simp⟩) ?_ ?_
    · skip
      simp
      refine Sub.cutE 0 [true, true, false, false, true, true, false, false, false, false, false, false, false, false, false, false, false, false, false, false, false, false, false, false, false, false] (by simp) ?_ ?_ <;> simp [List.range_succ, keepT, *]
    · skip
      rintro ⟨i, hi, ht⟩
      simp only
      refine EV.seq ?_
      refine EV.seq ?_
      refine EV.regionG tabOK ?_ -- region 4
      simp -implicitDefEqProofs
      refine EV.condT ?_
      simp -implicitDefEqProofs
      refine condT_intro (fun h2 => ?_) (fun h2 => ?_)
      · try simp at h2
        refine EV.skip ?_
        simp only [thenK_normal, blockK_normal, scopeK_normal]
        refine EV.seq ?_
        refine EV.block ?_
        refine EV.seq ?_
        have hxy : xs.length = ys.length := by omega
        have hy : i < ys.length := by omega
        refine EV.drawG tabOK mixedOK ?_ -- region 6
        simp -implicitDefEqProofs [h2, hy]
        refine And.intro ?_ ?_
        · decide +kernel
        refine EV.condT ?_
        simp -implicitDefEqProofs
        refine condT_intro (fun h3 => ?_) (fun h3 => ?_)
        · try simp at h3
          refine EV.seq ?_
          refine EV.regionG tabOK ?_ -- region 7
          simp -implicitDefEqProofs
          refine EV.ret ?_
          simp only [thenK_ret, blockK_ret, scopeK_ret, bodyK_ret]
          refine Fin.pure0 ?_
          simp -implicitDefEqProofs
          first | (intro h; subst h; exact absurd rfl h1) | (intro h; subst h; exact absurd rfl h3) | exact rowEnd h1 h2 ht
        · try simp at h3
          refine EV.skip ?_
          simp only [thenK_normal, blockK_normal, scopeK_normal]
          refine EV.regionG tabOK ?_ -- region 5
          simp -implicitDefEqProofs
          have hw : IntKind.i64.wrap ((i : Int) + 1) = (i : Int) + 1 := wrap_in _ (by omega) (by omega)
          refine ⟨⟨i + 1, by omega, rowNext h2 hy h3 ht⟩, by simp; omega, ?_⟩
          refine Sub.cutE 0 [true, true, false, false, true, true, false, false, false, false, false, false, false, false, false, false, false, false, false, false, false, false, false, false, false, false] (by simp) ?_ ?_ <;> simp [List.range_succ, keepT, *]
      · try simp at h2
        refine EV.exit ?_
        simp -implicitDefEqProofs
        refine EV.seq ?_
        refine EV.regionG tabOK ?_ -- region 8
        simp -implicitDefEqProofs
        refine EV.ret ?_
        simp only [thenK_ret, blockK_ret, scopeK_ret, bodyK_ret]
        refine Fin.pure0 ?_
        simp -implicitDefEqProofs
        first | (intro h; subst h; exact absurd rfl h1) | (intro h; subst h; exact absurd rfl h3) | exact rowEnd h1 h2 ht
end Go.Proofs.Tryd
end
section
namespace Go.Proofs.Tryd
open Go Go.AM
attribute [local simp] wpG_op wpG_nil contG_some wpG_guard guardG_b gval pureOp stepG_if isPick pickG_pick pickB_b pickOK isCall step_move step_assign step_alloc step_box boxV_some step_load step_store step_binOp step_unOp step_fieldAddr faV step_indexAddr ixA_slc ixA_arr step_extract extV_tup step_nilCheck ncV_ptr ncV_rp ncV_fn ncV_mp step_build buildV step_buildSlice bsV step_index ixV_arr ixV_str step_append apB step_makeSlice msV_i over step_len lenB_str lenB_ro lenB_sl lenB_nil lenB_z ld_ptr ld_rp offV_ptr offV_rp idxV_ro idxV_sl unV_not unV_neg binV_int binV_str binV_eqlb binV_neqb intOp strOp St.put updL setOb St.ev toV St.lk cellsOf valOf TK.agg stv fillV places TI.zero condT_true condT_false finS resL resSlot packV ren ren1 ren0 Value.cells builtinV appendV elemsOf keepT room_of wrap_in toIdx Ob.ren passed Function.comp_def take_len_map lenV touchOf hid tab1 tab2 tab3 tab4 tab5 tab6 tab7 tab8 tab9 tab10 tab11 tab12 tab13 tab14 tab15 tab16 tab17 tab18 tab19 tab20 tab21 tab22 tab23 tab24 tab25 tab26 tab28 tab29 tab30 tab31 tab32 tab33 tab34 tab35 tab36 tab37 tab38 tab39 tab40 tab41 tab42 tab43 tab44 tab45 tab46 tab48 tab49 tab50 tab51 tab52 tab53 tab54 tab55 tab56 tab57 tab58 tab59 tab60 tab61 tab62 tab63 tab64 tab65 tab67 tab68 tab69 tab70 tab71 tab72 tab73 tab74 tab75 tab76 tab77 tab78 tab79 tab80 tab81 tab82 tab83 tab84 tab85 tab86 tab89 tab90 tab91 tab92 tab93 tab94 tab95 tab96 tab98 tab99 tab100 tab101 tab102 tab103 tab104 tab105 tab106 tab107 tab108 tab109 tab113 tab114 tab115 tab116 tab117 tab118 tab119 tab120
set_option linter.unusedSimpArgs false
set_option maxRecDepth 10000
set_option maxHeartbeats 4000000
def markL (es : List Int) (x k : Int) : List Int := if 0 ≤ x ∧ x < es.length then es.set x.toNat k else es
theorem walk28 (x k : Int) (ep : Nat) (es : List Int) : QC prog 28 [n x, n k, .ptr 0 0 0 0] [.arr 0 1 [[.sl 1 ep 0 es.length]], .arr ep 1 (es.map fun z => [n z])] (.tup [])
    [.arr 0 1 [[.sl 1 ep 0 es.length]], .arr ep 1 ((markL es x k).map fun z => [n z])] := by
  refine QC.of_body tabOK func28 rfl (by kernel_rfl) ?_
  simp only [f28]
  refine EV.seq ?_
  refine EV.regionG tabOK ?_ -- region 0
  simp -implicitDefEqProofs +contextual
  refine EV.condT ?_
  simp -implicitDefEqProofs
  refine condT_intro (fun h1 => ?_) (fun h1 => ?_)
  · try simp at h1
    have hlt : x.toNat < es.length := by omega
    refine EV.regionG tabOK ?_ -- region 1
    simp -implicitDefEqProofs [h1, hlt]
    try simp only [bodyK_normal]
    refine Fin.plain ?_ ?_
    · simp
    · first | (simp [markL, List.range_succ, h1, List.map_set]; done) | (have hn : ¬ (0 ≤ x ∧ x < (es.length : Int)) := (by omega); simp [markL, List.range_succ, hn])
  · try simp at h1
    refine EV.skip ?_
    simp only [thenK_normal, blockK_normal, scopeK_normal]
    try simp only [bodyK_normal]
    refine Fin.plain ?_ ?_
    · simp
    · first | (simp [markL, List.range_succ, h1, List.map_set]; done) | (have hn : ¬ (0 ≤ x ∧ x < (es.length : Int)) := (by omega); simp [markL, List.range_succ, hn])
end Go.Proofs.Tryd
end
section
namespace Go.Proofs.Tryd
open Go Go.AM
attribute [local simp] wpG_op wpG_nil contG_some wpG_guard guardG_b gval pureOp stepG_if isPick pickG_pick pickB_b pickOK isCall step_move step_assign step_alloc step_box boxV_some step_load step_store step_binOp step_unOp step_fieldAddr faV step_indexAddr ixA_slc ixA_arr step_extract extV_tup step_nilCheck ncV_ptr ncV_rp ncV_fn ncV_mp step_build buildV step_buildSlice bsV step_index ixV_arr ixV_str step_append apB step_makeSlice msV_i step_makeFunc over step_len lenB_str lenB_ro lenB_sl lenB_nil lenB_z ld_ptr ld_rp offV_ptr offV_rp idxV_ro idxV_sl unV_not unV_neg binV_int binV_str binV_eqlb binV_neqb intOp strOp St.put updL setOb St.ev toV St.lk cellsOf valOf TK.agg stv fillV places TI.zero condT_true condT_false finS resL resSlot packV ren ren1 ren0 Value.cells builtinV appendV elemsOf keepT room_of wrap_in toIdx Ob.ren passed Function.comp_def take_len_map lenV touchOf hid tab1 tab2 tab3 tab4 tab5 tab6 tab7 tab8 tab9 tab10 tab11 tab12 tab13 tab14 tab15 tab16 tab17 tab18 tab19 tab20 tab21 tab22 tab23 tab24 tab25 tab26 tab28 tab29 tab30 tab31 tab32 tab33 tab34 tab35 tab36 tab37 tab38 tab39 tab40 tab41 tab42 tab43 tab44 tab45 tab46 tab48 tab49 tab50 tab51 tab52 tab53 tab54 tab55 tab56 tab57 tab58 tab59 tab60 tab61 tab62 tab63 tab64 tab65 tab67 tab68 tab69 tab70 tab71 tab72 tab73 tab74 tab75 tab76 tab77 tab78 tab79 tab80 tab81 tab82 tab83 tab84 tab85 tab86 tab89 tab90 tab91 tab92 tab93 tab94 tab95 tab96 tab98 tab99 tab100 tab101 tab102 tab103 tab104 tab105 tab106 tab107 tab108 tab109 tab113 tab114 tab115 tab116 tab117 tab118 tab119 tab120
set_option linter.unusedSimpArgs false
set_option maxRecDepth 10000
set_option maxHeartbeats 4000000
structure CoD where
  nm : List UInt8
  res : Int
  can : Int
  words : Int
  args : Int
def coV (x : CoD) : List V := [.s x.nm, n x.res, n x.can, n x.words, n x.args]
def kinds1 (k : Nat) (cos : List CoD) : List Int := cos.foldl (fun es c => markL es c.can 2) (List.replicate k 0)
def kindsL (k : Nat) (cos : List CoD) : List Int := cos.foldl (fun es c => markL es c.res 1) (kinds1 k cos)
theorem markL_len (es : List Int) (x k : Int) : (markL es x k).length = es.length := by unfold markL; split <;> simp
theorem foldLen {α : Type} (l : List α) (e : List Int) {f : List Int → α → List Int} (h : ∀ es c, (f es c).length = es.length) : (l.foldl f e).length = e.length := by
  induction l generalizing e with
  | nil => rfl
  | cons a l ih => rw [List.foldl_cons, ih, h]
theorem kinds1_len {k : Nat} {cos : List CoD} : (kinds1 k cos).length = k := (foldLen _ _ (fun es c => markL_len es _ _)).trans (by simp)
theorem foldNext {α β : Type} (l : List α) (f : β → α → β) (e : β) {i : Nat} (h : i < l.length) : (l.take (i + 1)).foldl f e = f ((l.take i).foldl f e) l[i] := by
  rw [← List.take_append_getElem h, List.foldl_append]; rfl
theorem walk19 (F : List (List V)) (cos : List CoD) (hF : F.length ≤ 1000000) (hc : cos.length ≤ 1000000) : QC prog 19 [.agg [.ro 1 F, .ro 5 (cos.map coV)]] [] (.ro 1 ((kindsL F.length cos).map fun z => [n z])) [] := by
  refine QC.of_body tabOK func19 rfl (by kernel_rfl) ?_
  simp only [f19]
  refine EV.seq ?_
  refine EV.regionG tabOK ?_ -- region 0
  simp -implicitDefEqProofs
  refine EV.seq ?_
  have hroom : roomFor F.length 8 := room_of hF (by decide)
  refine EV.regionG tabOK ?_ -- region 1
  simp -implicitDefEqProofs [hroom]
  refine EV.seq ?_
  refine EV.regionG tabOK ?_ -- region 2
  simp -implicitDefEqProofs
  refine EV.seq ?_
  refine EV.seq ?_
  refine EV.regionG tabOK ?_ -- region 3
  simp -implicitDefEqProofs
  refine EV.block ?_
  refine EV.loopB ((fun x => ⟨[.junk, .ptr 0 0 0 0, .c (.slice none 0 0), .ptr 2 0 0 0, .fn 28 [.ptr 2 0 0 0], .junk, .junk, .junk, .junk, .junk, .junk, .junk, .junk, .junk, .junk, .ro 5 (cos.map coV), n cos.length, n x.1, .junk, .junk, .junk, .junk, .junk, .junk, .junk, .junk, .junk, .junk, .junk, .junk, .junk, .junk, .junk, .junk, .junk, .junk, .junk, .junk, .junk], [.arr 0 2 [[.ro 1 F, .ro 5 (cos.map coV)]], .arr 0 1 (((cos.take x.1).foldl (fun es c => markL es c.can 2) (List.replicate F.length 0)).map fun z => [n z]), .arr 0 1 [[.sl 1 0 0 F.length]]]⟩ : { i : Nat // i ≤ cos.length } → St)) (fun x => cos.length - x.1) (⟨0, by simp⟩) ?_ ?_
  · skip
    simp
    refine Sub.cutE 3 [false, true, true, true, true, false, false, false, false, false, false, false, false, false, false, true, true, true, false, false, false, false, false, false, false, false, false, false, false, false, false, false, false, false, false, false, false, false, false] (by simp) ?_ ?_ <;> simp [List.range_succ, toIdx_range, passed, keepT, *]
  · skip
    rintro ⟨i, hi⟩
    simp only
    refine EV.seq ?_
    refine EV.regionG tabOK ?_ -- region 4
    simp -implicitDefEqProofs
    refine EV.seq ?_
    refine EV.condT ?_
    simp -implicitDefEqProofs
    refine condT_intro (fun h1 => ?_) (fun h1 => ?_)
    · try simp at h1
      refine EV.skip ?_
      simp only [thenK_normal, blockK_normal, scopeK_normal]
      refine EV.seq ?_
      refine EV.block ?_
      refine EV.seq ?_
      refine EV.regionG tabOK ?_ -- region 5
      simp -implicitDefEqProofs [h1, coV]
      refine EV.regionG tabOK ?_ -- region 6
      simp -implicitDefEqProofs
      have hL : ((cos.take i).foldl (fun es c => markL es c.can 2) (List.replicate F.length 0)).length = F.length := (foldLen _ _ (fun es c => markL_len es _ _)).trans (by simp)
      refine callG_own [2, 1] rfl (walk28 cos[i].can 2 0 ((cos.take i).foldl (fun es c => markL es c.can 2) (List.replicate F.length 0))) ?_ ?_ ?_ ?_ ?_ ?_
      · simp
      · simp [hL]
      · simp
      · simp
      · simp
      simp -implicitDefEqProofs [keys, callUpd, hL, List.range_succ]
      refine EV.regionG tabOK ?_ -- region 7
      simp -implicitDefEqProofs
      have hw : IntKind.i64.wrap ((i : Int) + 1) = (i : Int) + 1 := wrap_in _ (by omega) (by omega)
      have hN := foldNext cos (fun es c => markL es c.can 2) (List.replicate F.length 0) h1
      refine ⟨⟨i + 1, by omega⟩, by simp; omega, ?_⟩
      refine Sub.cutE 3 [false, true, true, true, true, false, false, false, false, false, false, false, false, false, false, true, true, true, false, false, false, false, false, false, false, false, false, false, false, false, false, false, false, false, false, false, false, false, false] (by simp) ?_ ?_ <;> simp [List.range_succ, toIdx_range, passed, keepT, *]
    · try simp at h1
      refine EV.exit ?_
      simp -implicitDefEqProofs
      refine EV.seq ?_
      refine EV.seq ?_
      refine EV.regionG tabOK ?_ -- region 8
      simp -implicitDefEqProofs
      refine EV.block ?_
      refine EV.loopB ((fun x => ⟨[.junk, .ptr 0 0 0 0, .c (.slice none 0 0), .ptr 2 0 0 0, .fn 28 [.ptr 2 0 0 0], .junk, .junk, .junk, .junk, .junk, .junk, .junk, .junk, .junk, .junk, .junk, .junk, .junk, .junk, .junk, .junk, .junk, .junk, .junk, .junk, .junk, .junk, .ro 5 (cos.map coV), n cos.length, n x.1, .junk, .junk, .junk, .junk, .junk, .junk, .junk, .junk, .junk], [.arr 0 2 [[.ro 1 F, .ro 5 (cos.map coV)]], .arr 0 1 (((cos.take x.1).foldl (fun es c => markL es c.res 1) (kinds1 F.length cos)).map fun z => [n z]), .arr 0 1 [[.sl 1 0 0 F.length]]]⟩ : { i : Nat // i ≤ cos.length } → St)) (fun x => cos.length - x.1) (⟨0, by simp⟩) ?_ ?_
      · skip
        have hT : List.take i cos = cos := List.take_of_length_le (by omega)
        have hK : cos.foldl (fun es c => markL es c.can 2) (List.replicate F.length 0) = kinds1 F.length cos := rfl
        simp [hT, hK]
        refine Sub.cutE 3 [false, true, true, true, true, false, false, false, false, false, false, false, false, false, false, false, false, false, false, false, false, false, false, false, false, false, false, true, true, true, false, false, false, false, false, false, false, false, false] (by simp) ?_ ?_ <;> simp [List.range_succ, toIdx_range, passed, keepT, *]
      · skip
        rintro ⟨i, hi⟩
        simp only
        refine EV.seq ?_
        refine EV.regionG tabOK ?_ -- region 9
        simp -implicitDefEqProofs
        refine EV.seq ?_
        refine EV.condT ?_
        simp -implicitDefEqProofs
        refine condT_intro (fun h2 => ?_) (fun h2 => ?_)
        · try simp at h2
          refine EV.skip ?_
          simp only [thenK_normal, blockK_normal, scopeK_normal]
          refine EV.seq ?_
          refine EV.block ?_
          refine EV.seq ?_
          refine EV.regionG tabOK ?_ -- region 10
          simp -implicitDefEqProofs [h2, coV]
          refine EV.regionG tabOK ?_ -- region 11
          simp -implicitDefEqProofs
          have hL : ((cos.take i).foldl (fun es c => markL es c.res 1) (kinds1 F.length cos)).length = F.length := (foldLen _ _ (fun es c => markL_len es _ _)).trans kinds1_len
          refine callG_own [2, 1] rfl (walk28 cos[i].res 1 0 ((cos.take i).foldl (fun es c => markL es c.res 1) (kinds1 F.length cos))) ?_ ?_ ?_ ?_ ?_ ?_
          · simp
          · simp [hL]
          · simp
          · simp
          · simp
          simp -implicitDefEqProofs [keys, callUpd, hL, List.range_succ]
          refine EV.regionG tabOK ?_ -- region 12
          simp -implicitDefEqProofs
          have hw : IntKind.i64.wrap ((i : Int) + 1) = (i : Int) + 1 := wrap_in _ (by omega) (by omega)
          have hN := foldNext cos (fun es c => markL es c.res 1) (kinds1 F.length cos) h2
          refine ⟨⟨i + 1, by omega⟩, by simp; omega, ?_⟩
          refine Sub.cutE 3 [false, true, true, true, true, false, false, false, false, false, false, false, false, false, false, false, false, false, false, false, false, false, false, false, false, false, false, true, true, true, false, false, false, false, false, false, false, false, false] (by simp) ?_ ?_ <;> simp [List.range_succ, toIdx_range, passed, keepT, *]
        · try simp at h2
          refine EV.exit ?_
          simp -implicitDefEqProofs
          refine EV.seq ?_
          refine EV.regionG tabOK ?_ -- region 13
          simp -implicitDefEqProofs
          refine EV.ret ?_
          simp only [thenK_ret, blockK_ret, scopeK_ret, bodyK_ret]
          have hT : List.take i cos = cos := List.take_of_length_le (by omega)
          have hK : cos.foldl (fun es c => markL es c.res 1) (kinds1 F.length cos) = kindsL F.length cos := rfl
          have hL : (kindsL F.length cos).length = F.length := (foldLen _ _ (fun es c => markL_len es _ _)).trans kinds1_len
          refine Fin.ro ?_ ?_ ?_ ?_
          · simp [roOf, hT, hK, hL]
            exact List.take_of_length_le (by simp [hL])
          · simp
          · simp [Pu]
          · simp
end Go.Proofs.Tryd
end
section
namespace Go.Proofs.Tryd
open Go Go.AM
attribute [local simp] wpG_op wpG_nil contG_some wpG_guard guardG_b gval pureOp stepG_if isPick pickG_pick pickB_b pickOK isCall step_move step_assign step_alloc step_box boxV_some step_load step_store step_binOp step_unOp step_fieldAddr faV step_indexAddr ixA_slc ixA_arr step_extract extV_tup step_nilCheck ncV_ptr ncV_rp ncV_fn ncV_mp step_build buildV step_buildSlice bsV step_index ixV_arr ixV_str step_append apB step_makeSlice msV_i step_makeFunc over step_len lenB_str lenB_ro lenB_sl lenB_nil lenB_z ld_ptr ld_rp offV_ptr offV_rp idxV_ro idxV_sl unV_not unV_neg binV_int binV_str binV_eqlb binV_neqb intOp strOp St.put updL setOb St.ev toV St.lk cellsOf valOf TK.agg stv fillV places TI.zero condT_true condT_false finS resL resSlot packV ren ren1 ren0 Value.cells builtinV appendV elemsOf keepT room_of wrap_in toIdx Ob.ren passed Function.comp_def take_len_map lenV touchOf hid tab1 tab2 tab3 tab4 tab5 tab6 tab7 tab8 tab9 tab10 tab11 tab12 tab13 tab14 tab15 tab16 tab17 tab18 tab19 tab20 tab21 tab22 tab23 tab24 tab25 tab26 tab28 tab29 tab30 tab31 tab32 tab33 tab34 tab35 tab36 tab37 tab38 tab39 tab40 tab41 tab42 tab43 tab44 tab45 tab46 tab48 tab49 tab50 tab51 tab52 tab53 tab54 tab55 tab56 tab57 tab58 tab59 tab60 tab61 tab62 tab63 tab64 tab65 tab67 tab68 tab69 tab70 tab71 tab72 tab73 tab74 tab75 tab76 tab77 tab78 tab79 tab80 tab81 tab82 tab83 tab84 tab85 tab86 tab89 tab90 tab91 tab92 tab93 tab94 tab95 tab96 tab98 tab99 tab100 tab101 tab102 tab103 tab104 tab105 tab106 tab107 tab108 tab109 tab113 tab114 tab115 tab116 tab117 tab118 tab119 tab120
set_option linter.unusedSimpArgs false
set_option maxRecDepth 10000
set_option maxHeartbeats 4000000

theorem walk52 (x : Int) : QC prog 52 [n x] [] (.b (decide (0 ≤ x) && decide (x ≤ 1048576))) [] := by
  refine QC.of_body tabOK func52 rfl (by kernel_rfl) ?_
  simp only [f52, insV]
  refine EV.seq ?_
  refine EV.regionG tabOK ?_ -- region 0
  simp -implicitDefEqProofs
  refine EV.seq ?_
  refine EV.regionG tabOK ?_ -- region 1
  simp -implicitDefEqProofs +contextual
  refine EV.ret ?_
  simp only [thenK_ret, blockK_ret, scopeK_ret, bodyK_ret]
  refine Fin.pure0 ?_
  simp

def labelsI (op : Int) : Int := if op = 8 ∨ op = 9 ∨ op = 10 ∨ op = 13 ∨ op = 14 ∨ op = 23 ∨ op = 24 then 1 else if op = 15 then -1 else 0
theorem walk40 (op a b c : Int) (l : List Int) : QC prog 40 [insV op a b c (.ro 1 (l.map fun z => [n z]))] [] (n (labelsI op)) [] := by
  refine QC.of_body tabOK func40 rfl (by kernel_rfl) ?_
  simp only [f40, insV]
  refine EV.seq ?_
  refine EV.regionG tabOK ?_ -- region 0
  simp -implicitDefEqProofs
  refine EV.seq ?_
  refine EV.seq ?_
  refine EV.regionG tabOK ?_ -- region 1
  simp -implicitDefEqProofs
  refine EV.block ?_
  refine EV.seq ?_
  refine EV.seq ?_
  refine EV.regionG tabOK ?_ -- region 2
  simp -implicitDefEqProofs
  refine EV.condT ?_
  simp -implicitDefEqProofs
  refine condT_intro (fun h1 => ?_) (fun h1 => ?_)
  · try simp at h1
    refine EV.skip ?_
    simp only [thenK_normal, blockK_normal, scopeK_normal]
    refine EV.condT ?_
    simp -implicitDefEqProofs
    refine EV.seq ?_
    refine EV.regionG tabOK ?_ -- region 9
    simp -implicitDefEqProofs
    refine EV.ret ?_
    simp only [thenK_ret, blockK_ret, scopeK_ret, bodyK_ret]
    refine Fin.pure0 ?_
    simp [labelsI, *]
  · try simp at h1
    refine EV.seq ?_
    refine EV.regionG tabOK ?_ -- region 3
    simp -implicitDefEqProofs
    refine EV.condT ?_
    simp -implicitDefEqProofs
    refine condT_intro (fun h2 => ?_) (fun h2 => ?_)
    · try simp at h2
      refine EV.skip ?_
      simp only [thenK_normal, blockK_normal, scopeK_normal]
      refine EV.condT ?_
      simp -implicitDefEqProofs
      refine EV.seq ?_
      refine EV.regionG tabOK ?_ -- region 9
      simp -implicitDefEqProofs
      refine EV.ret ?_
      simp only [thenK_ret, blockK_ret, scopeK_ret, bodyK_ret]
      refine Fin.pure0 ?_
      simp [labelsI, *]
    · try simp at h2
      refine EV.seq ?_
      refine EV.regionG tabOK ?_ -- region 4
      simp -implicitDefEqProofs
      refine EV.condT ?_
      simp -implicitDefEqProofs
      refine condT_intro (fun h3 => ?_) (fun h3 => ?_)
      · try simp at h3
        refine EV.skip ?_
        simp only [thenK_normal, blockK_normal, scopeK_normal]
        refine EV.condT ?_
        simp -implicitDefEqProofs
        refine EV.seq ?_
        refine EV.regionG tabOK ?_ -- region 9
        simp -implicitDefEqProofs
        refine EV.ret ?_
        simp only [thenK_ret, blockK_ret, scopeK_ret, bodyK_ret]
        refine Fin.pure0 ?_
        simp [labelsI, *]
      · try simp at h3
        refine EV.seq ?_
        refine EV.regionG tabOK ?_ -- region 5
        simp -implicitDefEqProofs
        refine EV.condT ?_
        simp -implicitDefEqProofs
        refine condT_intro (fun h4 => ?_) (fun h4 => ?_)
        · try simp at h4
          refine EV.skip ?_
          simp only [thenK_normal, blockK_normal, scopeK_normal]
          refine EV.condT ?_
          simp -implicitDefEqProofs
          refine EV.seq ?_
          refine EV.regionG tabOK ?_ -- region 9
          simp -implicitDefEqProofs
          refine EV.ret ?_
          simp only [thenK_ret, blockK_ret, scopeK_ret, bodyK_ret]
          refine Fin.pure0 ?_
          simp [labelsI, *]
        · try simp at h4
          refine EV.seq ?_
          refine EV.regionG tabOK ?_ -- region 6
          simp -implicitDefEqProofs
          refine EV.condT ?_
          simp -implicitDefEqProofs
          refine condT_intro (fun h5 => ?_) (fun h5 => ?_)
          · try simp at h5
            refine EV.skip ?_
            simp only [thenK_normal, blockK_normal, scopeK_normal]
            refine EV.condT ?_
            simp -implicitDefEqProofs
            refine EV.seq ?_
            refine EV.regionG tabOK ?_ -- region 9
            simp -implicitDefEqProofs
            refine EV.ret ?_
            simp only [thenK_ret, blockK_ret, scopeK_ret, bodyK_ret]
            refine Fin.pure0 ?_
            simp [labelsI, *]
          · try simp at h5
            refine EV.seq ?_
            refine EV.regionG tabOK ?_ -- region 7
            simp -implicitDefEqProofs
            refine EV.condT ?_
            simp -implicitDefEqProofs
            refine condT_intro (fun h6 => ?_) (fun h6 => ?_)
            · try simp at h6
              refine EV.skip ?_
              simp only [thenK_normal, blockK_normal, scopeK_normal]
              refine EV.condT ?_
              simp -implicitDefEqProofs
              refine EV.seq ?_
              refine EV.regionG tabOK ?_ -- region 9
              simp -implicitDefEqProofs
              refine EV.ret ?_
              simp only [thenK_ret, blockK_ret, scopeK_ret, bodyK_ret]
              refine Fin.pure0 ?_
              simp [labelsI, *]
            · try simp at h6
              refine EV.regionG tabOK ?_ -- region 8
              simp -implicitDefEqProofs
              refine EV.condT ?_
              simp -implicitDefEqProofs
              refine condT_intro (fun h7 => ?_) (fun h7 => ?_)
              · try simp at h7
                refine EV.seq ?_
                refine EV.regionG tabOK ?_ -- region 9
                simp -implicitDefEqProofs
                refine EV.ret ?_
                simp only [thenK_ret, blockK_ret, scopeK_ret, bodyK_ret]
                refine Fin.pure0 ?_
                simp [labelsI, *]
              · try simp at h7
                refine EV.seq ?_
                refine EV.regionG tabOK ?_ -- region 10
                simp -implicitDefEqProofs
                refine EV.condT ?_
                simp -implicitDefEqProofs
                refine condT_intro (fun h8 => ?_) (fun h8 => ?_)
                · try simp at h8
                  refine EV.seq ?_
                  refine EV.regionG tabOK ?_ -- region 11
                  simp -implicitDefEqProofs
                  refine EV.ret ?_
                  simp only [thenK_ret, blockK_ret, scopeK_ret, bodyK_ret]
                  refine Fin.pure0 ?_
                  simp [labelsI, *]
                · try simp at h8
                  refine EV.skip ?_
                  simp only [thenK_normal, blockK_normal, scopeK_normal]
                  refine EV.seq ?_
                  refine EV.regionG tabOK ?_ -- region 12
                  simp -implicitDefEqProofs
                  refine EV.ret ?_
                  simp only [thenK_ret, blockK_ret, scopeK_ret, bodyK_ret]
                  refine Fin.pure0 ?_
                  simp [labelsI, *]

end Go.Proofs.Tryd
end
section
namespace Go.Proofs.Tryd
open Go Go.AM
attribute [local simp] wpG_op wpG_nil contG_some wpG_guard guardG_b gval pureOp stepG_if isPick pickG_pick pickB_b pickOK isCall step_move step_assign step_alloc step_box boxV_some step_load step_store step_binOp step_unOp step_fieldAddr faV step_indexAddr ixA_slc ixA_arr step_extract extV_tup step_nilCheck ncV_ptr ncV_rp ncV_fn ncV_mp step_build buildV step_buildSlice bsV step_index ixV_arr ixV_str step_append apB step_makeSlice msV_i step_makeFunc over step_len lenB_str lenB_ro lenB_sl lenB_nil lenB_z ld_ptr ld_rp offV_ptr offV_rp idxV_ro idxV_sl unV_not unV_neg binV_int binV_str binV_eqlb binV_neqb intOp strOp St.put updL setOb St.ev toV St.lk cellsOf valOf TK.agg stv fillV places TI.zero condT_true condT_false finS resL resSlot packV ren ren1 ren0 Value.cells builtinV appendV elemsOf keepT room_of wrap_in toIdx Ob.ren passed Function.comp_def take_len_map lenV touchOf hid tab1 tab2 tab3 tab4 tab5 tab6 tab7 tab8 tab9 tab10 tab11 tab12 tab13 tab14 tab15 tab16 tab17 tab18 tab19 tab20 tab21 tab22 tab23 tab24 tab25 tab26 tab28 tab29 tab30 tab31 tab32 tab33 tab34 tab35 tab36 tab37 tab38 tab39 tab40 tab41 tab42 tab43 tab44 tab45 tab46 tab48 tab49 tab50 tab51 tab52 tab53 tab54 tab55 tab56 tab57 tab58 tab59 tab60 tab61 tab62 tab63 tab64 tab65 tab67 tab68 tab69 tab70 tab71 tab72 tab73 tab74 tab75 tab76 tab77 tab78 tab79 tab80 tab81 tab82 tab83 tab84 tab85 tab86 tab89 tab90 tab91 tab92 tab93 tab94 tab95 tab96 tab98 tab99 tab100 tab101 tab102 tab103 tab104 tab105 tab106 tab107 tab108 tab109 tab113 tab114 tab115 tab116 tab117 tab118 tab119 tab120
set_option linter.unusedSimpArgs false
set_option maxRecDepth 10000
set_option maxHeartbeats 4000000
/-- The checker's object. -/
def chkO (F C : List (List V)) (ks : List Int) (G : List (List V)) (kind : Int) : Ob := .arr 0 5 [[.ro 1 F, .ro 5 C, .ro 1 (ks.map fun z => [n z]), .ro 5 G, n kind]]
def allowedI (kind op : Int) : Bool := if op = 1 then !decide (kind = 0) else if op = 20 ∨ op = 21 ∨ op = 23 ∨ op = 24 ∨ op = 27 ∨ op = 28 then decide (kind = 1) else if op = 29 then !decide (kind = 1) else true

theorem walk47 (F C G : List (List V)) (ks : List Int) (kind op a b c : Int) (l : List Int) : QC prog 47 [.ptr 0 0 0 0, insV op a b c (.ro 1 (l.map fun z => [n z]))] [chkO F C ks G kind] (.b (allowedI kind op)) [chkO F C ks G kind] := by
  refine QC.of_body tabOK func47 rfl (by kernel_rfl) ?_
  simp only [f47, insV, chkO]
  refine EV.seq ?_
  refine EV.regionG tabOK ?_ -- region 0
  simp -implicitDefEqProofs
  refine EV.seq ?_
  refine EV.seq ?_
  refine EV.regionG tabOK ?_ -- region 1
  simp -implicitDefEqProofs
  refine EV.block ?_
  refine EV.seq ?_
  refine EV.regionG tabOK ?_ -- region 2
  simp -implicitDefEqProofs
  refine EV.condT ?_
  simp -implicitDefEqProofs
  refine condT_intro (fun h1 => ?_) (fun h1 => ?_)
  · try simp at h1
    refine EV.seq ?_
    refine EV.regionG tabOK ?_ -- region 3
    simp -implicitDefEqProofs
    refine EV.ret ?_
    simp only [thenK_ret, blockK_ret, scopeK_ret, bodyK_ret]
    refine Fin.plain ?_ ?_
    · simp [allowedI, *]
    · simp [List.range_succ]
  · try simp at h1
    refine EV.seq ?_
    refine EV.seq ?_
    refine EV.regionG tabOK ?_ -- region 4
    simp -implicitDefEqProofs
    refine EV.condT ?_
    simp -implicitDefEqProofs
    refine condT_intro (fun h2 => ?_) (fun h2 => ?_)
    · try simp at h2
      refine EV.skip ?_
      simp only [thenK_normal, blockK_normal, scopeK_normal]
      refine EV.condT ?_
      simp -implicitDefEqProofs
      refine EV.seq ?_
      refine EV.regionG tabOK ?_ -- region 10
      simp -implicitDefEqProofs
      refine EV.ret ?_
      simp only [thenK_ret, blockK_ret, scopeK_ret, bodyK_ret]
      refine Fin.plain ?_ ?_
      · simp [allowedI, *]
      · simp [List.range_succ]
    · try simp at h2
      refine EV.seq ?_
      refine EV.regionG tabOK ?_ -- region 5
      simp -implicitDefEqProofs
      refine EV.condT ?_
      simp -implicitDefEqProofs
      refine condT_intro (fun h3 => ?_) (fun h3 => ?_)
      · try simp at h3
        refine EV.skip ?_
        simp only [thenK_normal, blockK_normal, scopeK_normal]
        refine EV.condT ?_
        simp -implicitDefEqProofs
        refine EV.seq ?_
        refine EV.regionG tabOK ?_ -- region 10
        simp -implicitDefEqProofs
        refine EV.ret ?_
        simp only [thenK_ret, blockK_ret, scopeK_ret, bodyK_ret]
        refine Fin.plain ?_ ?_
        · simp [allowedI, *]
        · simp [List.range_succ]
      · try simp at h3
        refine EV.seq ?_
        refine EV.regionG tabOK ?_ -- region 6
        simp -implicitDefEqProofs
        refine EV.condT ?_
        simp -implicitDefEqProofs
        refine condT_intro (fun h4 => ?_) (fun h4 => ?_)
        · try simp at h4
          refine EV.skip ?_
          simp only [thenK_normal, blockK_normal, scopeK_normal]
          refine EV.condT ?_
          simp -implicitDefEqProofs
          refine EV.seq ?_
          refine EV.regionG tabOK ?_ -- region 10
          simp -implicitDefEqProofs
          refine EV.ret ?_
          simp only [thenK_ret, blockK_ret, scopeK_ret, bodyK_ret]
          refine Fin.plain ?_ ?_
          · simp [allowedI, *]
          · simp [List.range_succ]
        · try simp at h4
          refine EV.seq ?_
          refine EV.regionG tabOK ?_ -- region 7
          simp -implicitDefEqProofs
          refine EV.condT ?_
          simp -implicitDefEqProofs
          refine condT_intro (fun h5 => ?_) (fun h5 => ?_)
          · try simp at h5
            refine EV.skip ?_
            simp only [thenK_normal, blockK_normal, scopeK_normal]
            refine EV.condT ?_
            simp -implicitDefEqProofs
            refine EV.seq ?_
            refine EV.regionG tabOK ?_ -- region 10
            simp -implicitDefEqProofs
            refine EV.ret ?_
            simp only [thenK_ret, blockK_ret, scopeK_ret, bodyK_ret]
            refine Fin.plain ?_ ?_
            · simp [allowedI, *]
            · simp [List.range_succ]
          · try simp at h5
            refine EV.seq ?_
            refine EV.regionG tabOK ?_ -- region 8
            simp -implicitDefEqProofs
            refine EV.condT ?_
            simp -implicitDefEqProofs
            refine condT_intro (fun h6 => ?_) (fun h6 => ?_)
            · try simp at h6
              refine EV.skip ?_
              simp only [thenK_normal, blockK_normal, scopeK_normal]
              refine EV.condT ?_
              simp -implicitDefEqProofs
              refine EV.seq ?_
              refine EV.regionG tabOK ?_ -- region 10
              simp -implicitDefEqProofs
              refine EV.ret ?_
              simp only [thenK_ret, blockK_ret, scopeK_ret, bodyK_ret]
              refine Fin.plain ?_ ?_
              · simp [allowedI, *]
              · simp [List.range_succ]
            · try simp at h6
              refine EV.regionG tabOK ?_ -- region 9
              simp -implicitDefEqProofs
              refine EV.condT ?_
              simp -implicitDefEqProofs
              refine condT_intro (fun h7 => ?_) (fun h7 => ?_)
              · try simp at h7
                refine EV.seq ?_
                refine EV.regionG tabOK ?_ -- region 10
                simp -implicitDefEqProofs
                refine EV.ret ?_
                simp only [thenK_ret, blockK_ret, scopeK_ret, bodyK_ret]
                refine Fin.plain ?_ ?_
                · simp [allowedI, *]
                · simp [List.range_succ]
              · try simp at h7
                refine EV.seq ?_
                refine EV.regionG tabOK ?_ -- region 11
                simp -implicitDefEqProofs
                refine EV.condT ?_
                simp -implicitDefEqProofs
                refine condT_intro (fun h8 => ?_) (fun h8 => ?_)
                · try simp at h8
                  refine EV.seq ?_
                  refine EV.regionG tabOK ?_ -- region 12
                  simp -implicitDefEqProofs
                  refine EV.ret ?_
                  simp only [thenK_ret, blockK_ret, scopeK_ret, bodyK_ret]
                  refine Fin.plain ?_ ?_
                  · simp [allowedI, *]
                  · simp [List.range_succ]
                · try simp at h8
                  refine EV.skip ?_
                  simp only [thenK_normal, blockK_normal, scopeK_normal]
                  refine EV.seq ?_
                  refine EV.regionG tabOK ?_ -- region 13
                  simp -implicitDefEqProofs
                  refine EV.ret ?_
                  simp only [thenK_ret, blockK_ret, scopeK_ret, bodyK_ret]
                  refine Fin.plain ?_ ?_
                  · simp [allowedI, *]
                  · simp [List.range_succ]

end Go.Proofs.Tryd
end
section
namespace Go.Proofs.Tryd
open Go Go.AM
attribute [local simp] wpG_op wpG_nil contG_some wpG_guard guardG_b gval pureOp stepG_if isPick pickG_pick pickB_b pickOK isCall step_move step_assign step_alloc step_box boxV_some step_load step_store step_binOp step_unOp step_fieldAddr faV step_indexAddr ixA_slc ixA_arr step_extract extV_tup step_nilCheck ncV_ptr ncV_rp ncV_fn ncV_mp step_build buildV step_buildSlice bsV step_index ixV_arr ixV_str step_append apB step_makeSlice msV_i step_makeFunc over step_len lenB_str lenB_ro lenB_sl lenB_nil lenB_z ld_ptr ld_rp offV_ptr offV_rp idxV_ro idxV_sl unV_not unV_neg binV_int binV_str binV_eqlb binV_neqb intOp strOp St.put updL setOb St.ev toV St.lk cellsOf valOf TK.agg stv fillV places TI.zero condT_true condT_false finS resL resSlot packV ren ren1 ren0 Value.cells builtinV appendV elemsOf keepT room_of wrap_in toIdx Ob.ren passed Function.comp_def take_len_map lenV touchOf hid tab1 tab2 tab3 tab4 tab5 tab6 tab7 tab8 tab9 tab10 tab11 tab12 tab13 tab14 tab15 tab16 tab17 tab18 tab19 tab20 tab21 tab22 tab23 tab24 tab25 tab26 tab28 tab29 tab30 tab31 tab32 tab33 tab34 tab35 tab36 tab37 tab38 tab39 tab40 tab41 tab42 tab43 tab44 tab45 tab46 tab48 tab49 tab50 tab51 tab52 tab53 tab54 tab55 tab56 tab57 tab58 tab59 tab60 tab61 tab62 tab63 tab64 tab65 tab67 tab68 tab69 tab70 tab71 tab72 tab73 tab74 tab75 tab76 tab77 tab78 tab79 tab80 tab81 tab82 tab83 tab84 tab85 tab86 tab89 tab90 tab91 tab92 tab93 tab94 tab95 tab96 tab98 tab99 tab100 tab101 tab102 tab103 tab104 tab105 tab106 tab107 tab108 tab109 tab113 tab114 tab115 tab116 tab117 tab118 tab119 tab120
set_option linter.unusedSimpArgs false
set_option maxRecDepth 10000
set_option maxHeartbeats 4000000
def fieldI (C : Nat) (ks : List Int) (f x : Int) : Bool := if f = 1 ∨ f = 2 then decide (0 ≤ x) && decide (x < 16) else if f = 3 then true else if f = 4 then decide (0 ≤ x) && decide (x < 1048577) else if f = 5 then decide (0 ≤ x)
  else if f = 6 then (decide (0 ≤ x) && decide (x < ks.length)) && decide (ks.getD x.toNat 0 = 0) else if f = 7 then decide (0 ≤ x) && decide (x < C) else decide (x = 0)

theorem walk46 (F C G : List (List V)) (ks : List Int) (kind f x : Int) : QC prog 46 [.ptr 0 0 0 0, n f, n x] [chkO F C ks G kind] (.b (fieldI C.length ks f x)) [chkO F C ks G kind] := by
  refine QC.of_body tabOK func46 rfl (by kernel_rfl) ?_
  simp only [f46, chkO]
  by_cases hb : 0 ≤ x ∧ x < (ks.length : Int)
  · have hd : (decide (0 ≤ x) && decide (x < (ks.length : Int))) = true := by simp [hb]
    have h0 : 0 ≤ x := hb.1
    have hl : x < (ks.length : Int) := hb.2
    have hlt : x.toNat < ks.length := by omega
    have he : ks[x.toNat]? = some (ks[x.toNat]) := List.getElem?_eq_getElem hlt
    refine EV.seq ?_
    refine EV.regionG tabOK ?_ -- region 0
    simp -implicitDefEqProofs
    refine EV.seq ?_
    refine EV.seq ?_
    refine EV.regionG tabOK ?_ -- region 1
    simp -implicitDefEqProofs
    refine EV.block ?_
    refine EV.seq ?_
    refine EV.seq ?_
    refine EV.regionG tabOK ?_ -- region 2
    simp -implicitDefEqProofs
    refine EV.condT ?_
    simp -implicitDefEqProofs
    refine condT_intro (fun h1 => ?_) (fun h1 => ?_)
    · try simp at h1
      refine EV.skip ?_
      simp only [thenK_normal, blockK_normal, scopeK_normal]
      refine EV.condT ?_
      simp -implicitDefEqProofs
      refine EV.seq ?_
      refine EV.regionG tabOK ?_ -- region 4
      simp -implicitDefEqProofs
      refine callG_fun (walk37 x 16) ?_ ?_
      · simp
      simp -implicitDefEqProofs +contextual
      refine EV.ret ?_
      simp only [thenK_ret, blockK_ret, scopeK_ret, bodyK_ret]
      refine Fin.plain ?_ ?_
      · simp [fieldI, *]
      · simp [List.range_succ]
    · try simp at h1
      refine EV.regionG tabOK ?_ -- region 3
      simp -implicitDefEqProofs
      refine EV.condT ?_
      simp -implicitDefEqProofs
      refine condT_intro (fun h2 => ?_) (fun h2 => ?_)
      · try simp at h2
        refine EV.seq ?_
        refine EV.regionG tabOK ?_ -- region 4
        simp -implicitDefEqProofs
        refine callG_fun (walk37 x 16) ?_ ?_
        · simp
        simp -implicitDefEqProofs +contextual
        refine EV.ret ?_
        simp only [thenK_ret, blockK_ret, scopeK_ret, bodyK_ret]
        refine Fin.plain ?_ ?_
        · simp [fieldI, *]
        · simp [List.range_succ]
      · try simp at h2
        refine EV.seq ?_
        refine EV.regionG tabOK ?_ -- region 5
        simp -implicitDefEqProofs
        refine EV.condT ?_
        simp -implicitDefEqProofs
        refine condT_intro (fun h3 => ?_) (fun h3 => ?_)
        · try simp at h3
          refine EV.seq ?_
          refine EV.regionG tabOK ?_ -- region 6
          simp -implicitDefEqProofs
          refine EV.ret ?_
          simp only [thenK_ret, blockK_ret, scopeK_ret, bodyK_ret]
          refine Fin.plain ?_ ?_
          · simp [fieldI, *]
          · simp [List.range_succ]
        · try simp at h3
          refine EV.seq ?_
          refine EV.regionG tabOK ?_ -- region 7
          simp -implicitDefEqProofs
          refine EV.condT ?_
          simp -implicitDefEqProofs
          refine condT_intro (fun h4 => ?_) (fun h4 => ?_)
          · try simp at h4
            refine EV.seq ?_
            refine EV.regionG tabOK ?_ -- region 8
            simp -implicitDefEqProofs
            refine callG_fun (walk37 x 1048577) ?_ ?_
            · simp
            simp -implicitDefEqProofs +contextual
            refine EV.ret ?_
            simp only [thenK_ret, blockK_ret, scopeK_ret, bodyK_ret]
            refine Fin.plain ?_ ?_
            · simp [fieldI, *]
            · simp [List.range_succ]
          · try simp at h4
            refine EV.seq ?_
            refine EV.regionG tabOK ?_ -- region 9
            simp -implicitDefEqProofs
            refine EV.condT ?_
            simp -implicitDefEqProofs
            refine condT_intro (fun h5 => ?_) (fun h5 => ?_)
            · try simp at h5
              refine EV.seq ?_
              refine EV.regionG tabOK ?_ -- region 10
              simp -implicitDefEqProofs
              refine EV.ret ?_
              simp only [thenK_ret, blockK_ret, scopeK_ret, bodyK_ret]
              refine Fin.plain ?_ ?_
              · simp [fieldI, *]
              · simp [List.range_succ]
            · try simp at h5
              refine EV.seq ?_
              refine EV.regionG tabOK ?_ -- region 11
              simp -implicitDefEqProofs
              refine EV.condT ?_
              simp -implicitDefEqProofs
              refine condT_intro (fun h6 => ?_) (fun h6 => ?_)
              · try simp at h6
                refine EV.seq ?_
                refine EV.regionG tabOK ?_ -- region 12
                simp -implicitDefEqProofs +contextual
                refine callG_fun (walk37 x ks.length) ?_ ?_
                · simp
                simp -implicitDefEqProofs +contextual [h0, hl, hlt, he]
                refine EV.ret ?_
                simp only [thenK_ret, blockK_ret, scopeK_ret, bodyK_ret]
                refine Fin.plain ?_ ?_
                · simp [fieldI, *]
                · simp [List.range_succ]
              · try simp at h6
                refine EV.seq ?_
                refine EV.regionG tabOK ?_ -- region 13
                simp -implicitDefEqProofs
                refine EV.condT ?_
                simp -implicitDefEqProofs
                refine condT_intro (fun h7 => ?_) (fun h7 => ?_)
                · try simp at h7
                  refine EV.seq ?_
                  refine EV.regionG tabOK ?_ -- region 14
                  simp -implicitDefEqProofs
                  refine callG_fun (walk37 x C.length) ?_ ?_
                  · simp
                  simp -implicitDefEqProofs +contextual
                  refine EV.ret ?_
                  simp only [thenK_ret, blockK_ret, scopeK_ret, bodyK_ret]
                  refine Fin.plain ?_ ?_
                  · simp [fieldI, *]
                  · simp [List.range_succ]
                · try simp at h7
                  refine EV.skip ?_
                  simp only [thenK_normal, blockK_normal, scopeK_normal]
                  refine EV.seq ?_
                  refine EV.regionG tabOK ?_ -- region 15
                  simp -implicitDefEqProofs
                  refine EV.ret ?_
                  simp only [thenK_ret, blockK_ret, scopeK_ret, bodyK_ret]
                  refine Fin.plain ?_ ?_
                  · simp [fieldI, *]
                  · simp [List.range_succ]
  · have hd : (decide (0 ≤ x) && decide (x < (ks.length : Int))) = false := by simpa using fun h => by omega
    refine EV.seq ?_
    refine EV.regionG tabOK ?_ -- region 0
    simp -implicitDefEqProofs
    refine EV.seq ?_
    refine EV.seq ?_
    refine EV.regionG tabOK ?_ -- region 1
    simp -implicitDefEqProofs
    refine EV.block ?_
    refine EV.seq ?_
    refine EV.seq ?_
    refine EV.regionG tabOK ?_ -- region 2
    simp -implicitDefEqProofs
    refine EV.condT ?_
    simp -implicitDefEqProofs
    refine condT_intro (fun h1 => ?_) (fun h1 => ?_)
    · try simp at h1
      refine EV.skip ?_
      simp only [thenK_normal, blockK_normal, scopeK_normal]
      refine EV.condT ?_
      simp -implicitDefEqProofs
      refine EV.seq ?_
      refine EV.regionG tabOK ?_ -- region 4
      simp -implicitDefEqProofs
      refine callG_fun (walk37 x 16) ?_ ?_
      · simp
      simp -implicitDefEqProofs +contextual
      refine EV.ret ?_
      simp only [thenK_ret, blockK_ret, scopeK_ret, bodyK_ret]
      refine Fin.plain ?_ ?_
      · simp [fieldI, *]
      · simp [List.range_succ]
    · try simp at h1
      refine EV.regionG tabOK ?_ -- region 3
      simp -implicitDefEqProofs
      refine EV.condT ?_
      simp -implicitDefEqProofs
      refine condT_intro (fun h2 => ?_) (fun h2 => ?_)
      · try simp at h2
        refine EV.seq ?_
        refine EV.regionG tabOK ?_ -- region 4
        simp -implicitDefEqProofs
        refine callG_fun (walk37 x 16) ?_ ?_
        · simp
        simp -implicitDefEqProofs +contextual
        refine EV.ret ?_
        simp only [thenK_ret, blockK_ret, scopeK_ret, bodyK_ret]
        refine Fin.plain ?_ ?_
        · simp [fieldI, *]
        · simp [List.range_succ]
      · try simp at h2
        refine EV.seq ?_
        refine EV.regionG tabOK ?_ -- region 5
        simp -implicitDefEqProofs
        refine EV.condT ?_
        simp -implicitDefEqProofs
        refine condT_intro (fun h3 => ?_) (fun h3 => ?_)
        · try simp at h3
          refine EV.seq ?_
          refine EV.regionG tabOK ?_ -- region 6
          simp -implicitDefEqProofs
          refine EV.ret ?_
          simp only [thenK_ret, blockK_ret, scopeK_ret, bodyK_ret]
          refine Fin.plain ?_ ?_
          · simp [fieldI, *]
          · simp [List.range_succ]
        · try simp at h3
          refine EV.seq ?_
          refine EV.regionG tabOK ?_ -- region 7
          simp -implicitDefEqProofs
          refine EV.condT ?_
          simp -implicitDefEqProofs
          refine condT_intro (fun h4 => ?_) (fun h4 => ?_)
          · try simp at h4
            refine EV.seq ?_
            refine EV.regionG tabOK ?_ -- region 8
            simp -implicitDefEqProofs
            refine callG_fun (walk37 x 1048577) ?_ ?_
            · simp
            simp -implicitDefEqProofs +contextual
            refine EV.ret ?_
            simp only [thenK_ret, blockK_ret, scopeK_ret, bodyK_ret]
            refine Fin.plain ?_ ?_
            · simp [fieldI, *]
            · simp [List.range_succ]
          · try simp at h4
            refine EV.seq ?_
            refine EV.regionG tabOK ?_ -- region 9
            simp -implicitDefEqProofs
            refine EV.condT ?_
            simp -implicitDefEqProofs
            refine condT_intro (fun h5 => ?_) (fun h5 => ?_)
            · try simp at h5
              refine EV.seq ?_
              refine EV.regionG tabOK ?_ -- region 10
              simp -implicitDefEqProofs
              refine EV.ret ?_
              simp only [thenK_ret, blockK_ret, scopeK_ret, bodyK_ret]
              refine Fin.plain ?_ ?_
              · simp [fieldI, *]
              · simp [List.range_succ]
            · try simp at h5
              refine EV.seq ?_
              refine EV.regionG tabOK ?_ -- region 11
              simp -implicitDefEqProofs
              refine EV.condT ?_
              simp -implicitDefEqProofs
              refine condT_intro (fun h6 => ?_) (fun h6 => ?_)
              · try simp at h6
                refine EV.seq ?_
                refine EV.regionG tabOK ?_ -- region 12
                simp -implicitDefEqProofs +contextual
                refine callG_fun (walk37 x ks.length) ?_ ?_
                · simp
                simp -implicitDefEqProofs +contextual [hd]
                refine EV.ret ?_
                simp only [thenK_ret, blockK_ret, scopeK_ret, bodyK_ret]
                refine Fin.plain ?_ ?_
                · simp [fieldI, *]
                · simp [List.range_succ]
              · try simp at h6
                refine EV.seq ?_
                refine EV.regionG tabOK ?_ -- region 13
                simp -implicitDefEqProofs
                refine EV.condT ?_
                simp -implicitDefEqProofs
                refine condT_intro (fun h7 => ?_) (fun h7 => ?_)
                · try simp at h7
                  refine EV.seq ?_
                  refine EV.regionG tabOK ?_ -- region 14
                  simp -implicitDefEqProofs
                  refine callG_fun (walk37 x C.length) ?_ ?_
                  · simp
                  simp -implicitDefEqProofs +contextual
                  refine EV.ret ?_
                  simp only [thenK_ret, blockK_ret, scopeK_ret, bodyK_ret]
                  refine Fin.plain ?_ ?_
                  · simp [fieldI, *]
                  · simp [List.range_succ]
                · try simp at h7
                  refine EV.skip ?_
                  simp only [thenK_normal, blockK_normal, scopeK_normal]
                  refine EV.seq ?_
                  refine EV.regionG tabOK ?_ -- region 15
                  simp -implicitDefEqProofs
                  refine EV.ret ?_
                  simp only [thenK_ret, blockK_ret, scopeK_ret, bodyK_ret]
                  refine Fin.plain ?_ ?_
                  · simp [fieldI, *]
                  · simp [List.range_succ]

end Go.Proofs.Tryd
end
section
namespace Go.Proofs.Tryd
open Go Go.AM
attribute [local simp] wpG_op wpG_nil contG_some wpG_guard guardG_b gval pureOp stepG_if isPick pickG_pick pickB_b pickOK isCall step_move step_assign step_alloc step_box boxV_some step_load step_store step_binOp step_unOp step_fieldAddr faV step_indexAddr ixA_slc ixA_arr step_extract extV_tup step_nilCheck ncV_ptr ncV_rp ncV_fn ncV_mp step_build buildV step_buildSlice bsV step_index ixV_arr ixV_str step_append apB step_makeSlice msV_i step_makeFunc over step_len lenB_str lenB_ro lenB_sl lenB_nil lenB_z ld_ptr ld_rp offV_ptr offV_rp idxV_ro idxV_sl unV_not unV_neg binV_int binV_str binV_eqlb binV_neqb intOp strOp St.put updL setOb St.ev toV St.lk cellsOf valOf TK.agg stv fillV places TI.zero condT_true condT_false finS resL resSlot packV ren ren1 ren0 Value.cells builtinV appendV elemsOf keepT room_of wrap_in toIdx Ob.ren passed Function.comp_def take_len_map lenV touchOf hid tab1 tab2 tab3 tab4 tab5 tab6 tab7 tab8 tab9 tab10 tab11 tab12 tab13 tab14 tab15 tab16 tab17 tab18 tab19 tab20 tab21 tab22 tab23 tab24 tab25 tab26 tab28 tab29 tab30 tab31 tab32 tab33 tab34 tab35 tab36 tab37 tab38 tab39 tab40 tab41 tab42 tab43 tab44 tab45 tab46 tab48 tab49 tab50 tab51 tab52 tab53 tab54 tab55 tab56 tab57 tab58 tab59 tab60 tab61 tab62 tab63 tab64 tab65 tab67 tab68 tab69 tab70 tab71 tab72 tab73 tab74 tab75 tab76 tab77 tab78 tab79 tab80 tab81 tab82 tab83 tab84 tab85 tab86 tab89 tab90 tab91 tab92 tab93 tab94 tab95 tab96 tab98 tab99 tab100 tab101 tab102 tab103 tab104 tab105 tab106 tab107 tab108 tab109 tab113 tab114 tab115 tab116 tab117 tab118 tab119 tab120 
set_option linter.unusedSimpArgs false
set_option maxRecDepth 10000
set_option maxHeartbeats 4000000

def outP (g : Nat) (z : Int) : Bool := !(decide (0 ≤ z) && decide (z < (g : Int)))
def idxP (p : Int → Bool) (l : List Int) : Int := if l.findIdx p < l.length then (l.findIdx p : Int) else -1
theorem idxP_hit {p : Int → Bool} {l : List Int} {i : Nat} (h : i < l.length) (hp : p l[i] = true) (hn : ∀ x ∈ l.take i, p x = false) : idxP p l = i := by
  have : l.findIdx p = i := (List.findIdx_eq h).2 ⟨hp, fun j hj => hn _ (by rw [List.mem_take_iff_getElem]; exact ⟨j, by omega, rfl⟩)⟩
  simp [idxP, this, h]
theorem idxP_none {p : Int → Bool} {l : List Int} (hn : ∀ x ∈ l, p x = false) : idxP p l = -1 := by
  have : l.findIdx p = l.length := List.findIdx_eq_length.2 hn
  simp [idxP, this]
theorem idxP_pos {p : Int → Bool} {l : List Int} : decide (0 ≤ idxP p l) = l.any p := by
  unfold idxP
  split
  · rename_i h
    have h2 : l.any p = true := List.any_eq_true.2 ⟨_, List.getElem_mem h, List.findIdx_getElem⟩
    rw [h2]; simp
  · rename_i h
    have h2 : ∀ x ∈ l, p x = false := List.findIdx_eq_length.1 (by have := List.findIdx_le_length (p := p) (xs := l); omega)
    have h3 : l.any p = false := by rw [List.any_eq_false]; intro x hx; simp [h2 x hx]
    rw [h3]; decide
theorem takeNext {p : Int → Bool} {l : List Int} {i : Nat} (h : i < l.length) (hp : p l[i] = false) (hn : ∀ x ∈ l.take i, p x = false) : ∀ x ∈ l.take (i + 1), p x = false := by
  intro x hx
  rw [← List.take_append_getElem h] at hx
  rcases List.mem_append.1 hx with h1 | h1
  · exact hn x h1
  · rw [List.mem_singleton.1 h1]; exact hp
/-- The checker's object beside the cell that holds its address. -/
def chkAt (F C : List (List V)) (ks : List Int) (G : List (List V)) (kind : Int) : List Ob := [.arr 0 1 [[.ptr 1 0 0 0]], chkO F C ks G kind]

theorem walk49 (F C G : List (List V)) (ks : List Int) (kind : Int) (x : Int) : QC prog 49 [n x, .ptr 0 0 0 0] (chkAt F C ks G kind) (.b (outP G.length x)) (chkAt F C ks G kind) := by
  refine QC.of_body tabOK func49 rfl (by kernel_rfl) ?_
  simp only [f49, chkAt, chkO]
  refine EV.seq ?_
  refine EV.regionG tabOK ?_ -- region 0
  simp -implicitDefEqProofs
  refine EV.seq ?_
  refine EV.regionG tabOK ?_ -- region 1
  simp -implicitDefEqProofs
  refine callG_fun (walk37 x G.length) ?_ ?_
  · simp
  simp -implicitDefEqProofs
  refine EV.ret ?_
  simp only [thenK_ret, blockK_ret, scopeK_ret, bodyK_ret]
  refine Fin.plain ?_ ?_
  · simp [outP]
  · simp [List.range_succ]

theorem walk56 (F C G : List (List V)) (ks : List Int) (kind : Int) (l : List Int) (hl : l.length ≤ 1000000) : QC prog 56 [.ro 1 (l.map fun z => [n z]), .fn 49 [.ptr 0 0 0 0]] (chkAt F C ks G kind) (n (idxP (outP G.length) l)) (chkAt F C ks G kind) := by
  refine QC.of_body tabOK func56 rfl (by kernel_rfl) ?_
  simp only [f56, chkAt, chkO]
  refine EV.seq ?_
  refine EV.regionG tabOK ?_ -- region 0
  simp -implicitDefEqProofs
  refine EV.seq ?_
  refine EV.seq ?_
  refine EV.regionG tabOK ?_ -- region 1
  simp -implicitDefEqProofs
  refine EV.block ?_
  refine EV.loopB ((fun x => ⟨[.ro 1 (l.map fun z => [n z]), .fn 49 [.ptr 0 0 0 0], .junk, .junk, n 0, .junk, .junk, n l.length, n x.1, .junk, .junk, .junk, .junk, .junk, .junk, .junk, .junk, .junk, .junk], [.arr 0 1 [[.ptr 1 0 0 0]], .arr 0 5 [[.ro 1 F, .ro 5 C, .ro 1 (ks.map fun z => [n z]), .ro 5 G, n kind]]]⟩ : { i : Nat // i ≤ l.length ∧ ∀ z ∈ l.take i, outP G.length z = false } → St)) (fun x => l.length - x.1) (⟨0, by simp⟩) ?_ ?_
  · skip
    simp
    refine Sub.cutE 2 [true, true, false, false, true, false, false, true, true, false, false, false, false, false, false, false, false, false, false] (by simp) ?_ ?_ <;> simp [List.range_succ, toIdx_range, passed, keepT, *]
  · skip
    rintro ⟨i, hi, hp⟩
    simp only
    refine EV.seq ?_
    refine EV.regionG tabOK ?_ -- region 2
    simp -implicitDefEqProofs
    refine EV.seq ?_
    refine EV.condT ?_
    simp -implicitDefEqProofs
    refine condT_intro (fun h1 => ?_) (fun h1 => ?_)
    · try simp at h1
      refine EV.skip ?_
      simp only [thenK_normal, blockK_normal, scopeK_normal]
      refine EV.seq ?_
      refine EV.block ?_
      refine EV.seq ?_
      refine EV.regionG tabOK ?_ -- region 3
      simp -implicitDefEqProofs
      refine EV.seq ?_
      refine EV.regionG tabOK ?_ -- region 4
      simp -implicitDefEqProofs [h1]
      refine callG_own [0, 1] rfl (walk49 F C G ks kind l[i]) ?_ ?_ ?_ ?_ ?_ ?_
      · simp
      · simp [chkAt, chkO]
      · simp
      · simp
      · simp [chkAt]
      simp -implicitDefEqProofs [keys, callUpd, chkAt, chkO, List.range_succ]
      refine EV.condT ?_
      simp -implicitDefEqProofs
      refine condT_intro (fun h2 => ?_) (fun h2 => ?_)
      · try simp at h2
        refine EV.seq ?_
        refine EV.regionG tabOK ?_ -- region 5
        simp -implicitDefEqProofs
        refine EV.ret ?_
        simp only [thenK_ret, blockK_ret, scopeK_ret, bodyK_ret]
        refine Fin.plain ?_ ?_
        · first | (simp [idxP_hit h1 h2 hp]; done) | (have hT : List.take i l = l := List.take_of_length_le (by omega); rw [hT] at hp; simp [idxP_none hp]; done)
        · simp [List.range_succ]
      · try simp at h2
        refine EV.skip ?_
        simp only [thenK_normal, blockK_normal, scopeK_normal]
        refine EV.regionG tabOK ?_ -- region 6
        simp -implicitDefEqProofs
        have hw : IntKind.i64.wrap ((i : Int) + 1) = (i : Int) + 1 := wrap_in _ (by omega) (by omega)
        refine ⟨⟨i + 1, by omega, takeNext h1 (by simpa using h2) hp⟩, by simp; omega, ?_⟩
        refine Sub.cutE 2 [true, true, false, false, true, false, false, true, true, false, false, false, false, false, false, false, false, false, false] (by simp) ?_ ?_ <;> simp [List.range_succ, toIdx_range, passed, keepT, *]
    · try simp at h1
      refine EV.exit ?_
      simp -implicitDefEqProofs
      refine EV.seq ?_
      refine EV.regionG tabOK ?_ -- region 7
      simp -implicitDefEqProofs
      refine EV.ret ?_
      simp only [thenK_ret, blockK_ret, scopeK_ret, bodyK_ret]
      refine Fin.plain ?_ ?_
      · first | (simp [idxP_hit h1 h2 hp]; done) | (have hT : List.take i l = l := List.take_of_length_le (by omega); rw [hT] at hp; simp [idxP_none hp]; done)
      · simp [List.range_succ]

theorem walk48 (F C G : List (List V)) (ks : List Int) (kind : Int) (l : List Int) (hl : l.length ≤ 1000000) : QC prog 48 [.ro 1 (l.map fun z => [n z]), .fn 49 [.ptr 0 0 0 0]] (chkAt F C ks G kind) (.b (l.any (outP G.length))) (chkAt F C ks G kind) := by
  refine QC.of_body tabOK func48 rfl (by kernel_rfl) ?_
  simp only [f48, chkAt, chkO]
  refine EV.seq ?_
  refine EV.regionG tabOK ?_ -- region 0
  simp -implicitDefEqProofs
  refine EV.seq ?_
  refine EV.regionG tabOK ?_ -- region 1
  simp -implicitDefEqProofs
  refine callG_own [0, 1] rfl (walk56 F C G ks kind l hl) ?_ ?_ ?_ ?_ ?_ ?_
  · simp
  · simp [chkAt, chkO]
  · simp
  · simp
  · simp [chkAt]
  simp -implicitDefEqProofs [keys, callUpd, chkAt, chkO, List.range_succ]
  refine EV.ret ?_
  simp only [thenK_ret, blockK_ret, scopeK_ret, bodyK_ret]
  refine Fin.plain ?_ ?_
  · simp [idxP_pos]
  · simp [List.range_succ]

end Go.Proofs.Tryd
end
section
namespace Go.Proofs.Tryd
open Go Go.AM
attribute [local simp] wpG_op wpG_nil contG_some wpG_guard guardG_v guardG_o guardG_tup gval pureOp stepG_if isPick pickG_pick pickB_b pickOK isCall step_move step_assign step_alloc step_box boxV_some step_load step_store step_binOp step_unOp step_fieldAddr faV step_indexAddr ixA_slc ixA_arr step_extract extV_tup step_nilCheck ncV_ptr ncV_rp ncV_fn ncV_mp step_build buildV step_buildSlice bsV step_index ixV_arr ixV_str step_append apB step_makeSlice msV_i step_makeFunc over step_len step_makeMap mmV step_mapUpdate step_insert muA_map muB_mp step_lookup lkA_map lkB_mp step_slice slcV_s slcV_sl slcV_ro cutB_some slObV_arr bound_none bound_some bndV_i lenB_str lenB_ro lenB_sl lenB_nil lenB_z ld_ptr ld_rp offV_ptr offV_rp idxV_ro idxV_sl unV_not unV_neg binV_int binV_str binV_eqlb binV_neqb intOp strOp St.put updL setOb St.ev toV St.lk cellsOf valOf TK.agg stv fillV places TI.zero condT_true condT_false finS resL resSlot packV ren ren1 ren0 Value.cells builtinV appendV elemsOf keepT room_of wrap_in toIdx Ob.ren passed Function.comp_def take_len_map lenV touchOf hid tab1 tab2 tab3 tab4 tab5 tab6 tab7 tab8 tab9 tab10 tab11 tab12 tab13 tab14 tab15 tab16 tab17 tab18 tab19 tab20 tab21 tab22 tab23 tab24 tab25 tab26 tab28 tab29 tab30 tab31 tab32 tab33 tab34 tab35 tab36 tab37 tab38 tab39 tab40 tab41 tab42 tab43 tab44 tab45 tab46 tab48 tab49 tab50 tab51 tab52 tab53 tab54 tab55 tab56 tab57 tab58 tab59 tab60 tab61 tab62 tab63 tab64 tab65 tab67 tab68 tab69 tab70 tab71 tab72 tab73 tab74 tab75 tab76 tab77 tab78 tab79 tab80 tab81 tab82 tab83 tab84 tab85 tab86 tab89 tab90 tab91 tab92 tab93 tab94 tab95 tab96 tab98 tab99 tab100 tab101 tab102 tab103 tab104 tab105 tab106 tab107 tab108 tab109 tab113 tab114 tab115 tab116 tab117 tab118 tab119 tab120 
set_option linter.unusedSimpArgs false
set_option maxRecDepth 10000
set_option maxHeartbeats 4000000

def oneI (C : Nat) (ks : List Int) (g : Nat) (kind op a b c : Int) (l : List Int) : Bool :=
  (shape op).2 && (fieldI C ks (shape op).1.1 a && (fieldI C ks (shape op).1.2.1 b && (fieldI C ks (shape op).1.2.2.1 c && allowedI kind op))) &&
    !((decide (0 ≤ (shape op).1.2.2.2) && !decide ((l.length : Int) = (shape op).1.2.2.2)) || (decide ((shape op).1.2.2.2 < 0) && decide ((l.length : Int) = 0))) && !l.any (outP g)
theorem cases5 (p q r s t : Bool) : p = false ∨ (p = true ∧ q = false) ∨ (p = true ∧ q = true ∧ r = false) ∨ (p = true ∧ q = true ∧ r = true ∧ s = false) ∨ (p = true ∧ q = true ∧ r = true ∧ s = true ∧ t = false) ∨ (p = true ∧ q = true ∧ r = true ∧ s = true ∧ t = true) := by
  cases p <;> cases q <;> cases r <;> cases s <;> cases t <;> simp
theorem cases4 (l : List Int) (s : Int) : (0 ≤ s ∧ ¬ s < 0 ∧ (l.length : Int) = s) ∨ (0 ≤ s ∧ ¬ s < 0 ∧ ¬ (l.length : Int) = s) ∨ (¬ 0 ≤ s ∧ s < 0 ∧ l = []) ∨ (¬ 0 ≤ s ∧ s < 0 ∧ l ≠ []) := by
  by_cases h : l = [] <;> simp [h] <;> omega

theorem walk38 (F C G : List (List V)) (ks : List Int) (kind op a b c : Int) (l : List Int) (hl : l.length ≤ 1000000) : QC prog 38 [.ptr 0 0 0 0, insV op a b c (.ro 1 (l.map fun z => [n z]))] [chkO F C ks G kind] (.b (oneI C.length ks G.length kind op a b c l)) [chkO F C ks G kind] := by
  refine QC.of_body tabOK func38 rfl (by kernel_rfl) ?_
  simp only [f38, insV, chkO]
  refine EV.seq ?_
  refine EV.regionG tabOK ?_ -- region 0
  simp -implicitDefEqProofs
  refine EV.seq ?_
  refine EV.regionG tabOK ?_ -- region 1
  simp -implicitDefEqProofs
  refine callG_fun (walk26 op a b c (.ro 1 (l.map fun z => [n z]))) ?_ ?_
  · simp [insV]
  simp -implicitDefEqProofs [shapeV]
  refine EV.seq ?_
  refine EV.seq ?_
  rcases cases5 (shape op).2 (fieldI C.length ks (shape op).1.1 a) (fieldI C.length ks (shape op).1.2.1 b) (fieldI C.length ks (shape op).1.2.2.1 c) (allowedI kind op) with e0 | ⟨e0, e1⟩ | ⟨e0, e1, e2⟩ | ⟨e0, e1, e2, e3⟩ | ⟨e0, e1, e2, e3, e4⟩ | ⟨e0, e1, e2, e3, e4⟩
  · skip
    refine EV.regionG tabOK ?_ -- region 2
    simp -implicitDefEqProofs +contextual [e0, insV]
    refine EV.condT ?_
    simp -implicitDefEqProofs
    refine EV.seq ?_
    refine EV.regionG tabOK ?_ -- region 3
    simp -implicitDefEqProofs
    refine EV.ret ?_
    simp only [thenK_ret, blockK_ret, scopeK_ret, bodyK_ret]
    refine Fin.plain ?_ ?_
    · first | (simp [oneI, *]; done) | (simp_all [oneI]; done)
    · simp [List.range_succ, chkO]
  · skip
    refine EV.regionG tabOK ?_ -- region 2
    simp -implicitDefEqProofs +contextual [e0, insV]
    refine callG_own [0] rfl (walk46 F C G ks kind (shape op).1.1 a) ?_ ?_ ?_ ?_ ?_ ?_
    · simp [insV]
    · simp [chkO]
    · simp
    · simp
    · simp [chkO]
    simp -implicitDefEqProofs +contextual [keys, callUpd, chkO, List.range_succ, e0, e1]
    refine EV.condT ?_
    simp -implicitDefEqProofs
    refine EV.seq ?_
    refine EV.regionG tabOK ?_ -- region 3
    simp -implicitDefEqProofs
    refine EV.ret ?_
    simp only [thenK_ret, blockK_ret, scopeK_ret, bodyK_ret]
    refine Fin.plain ?_ ?_
    · first | (simp [oneI, *]; done) | (simp_all [oneI]; done)
    · simp [List.range_succ, chkO]
  · skip
    refine EV.regionG tabOK ?_ -- region 2
    simp -implicitDefEqProofs +contextual [e0, insV]
    refine callG_own [0] rfl (walk46 F C G ks kind (shape op).1.1 a) ?_ ?_ ?_ ?_ ?_ ?_
    · simp [insV]
    · simp [chkO]
    · simp
    · simp
    · simp [chkO]
    simp -implicitDefEqProofs +contextual [keys, callUpd, chkO, List.range_succ, e0, e1, e2]
    refine callG_own [0] rfl (walk46 F C G ks kind (shape op).1.2.1 b) ?_ ?_ ?_ ?_ ?_ ?_
    · simp [insV]
    · simp [chkO]
    · simp
    · simp
    · simp [chkO]
    simp -implicitDefEqProofs +contextual [keys, callUpd, chkO, List.range_succ, e0, e1, e2]
    refine EV.condT ?_
    simp -implicitDefEqProofs
    refine EV.seq ?_
    refine EV.regionG tabOK ?_ -- region 3
    simp -implicitDefEqProofs
    refine EV.ret ?_
    simp only [thenK_ret, blockK_ret, scopeK_ret, bodyK_ret]
    refine Fin.plain ?_ ?_
    · first | (simp [oneI, *]; done) | (simp_all [oneI]; done)
    · simp [List.range_succ, chkO]
  · skip
    refine EV.regionG tabOK ?_ -- region 2
    simp -implicitDefEqProofs +contextual [e0, insV]
    refine callG_own [0] rfl (walk46 F C G ks kind (shape op).1.1 a) ?_ ?_ ?_ ?_ ?_ ?_
    · simp [insV]
    · simp [chkO]
    · simp
    · simp
    · simp [chkO]
    simp -implicitDefEqProofs +contextual [keys, callUpd, chkO, List.range_succ, e0, e1, e2, e3]
    refine callG_own [0] rfl (walk46 F C G ks kind (shape op).1.2.1 b) ?_ ?_ ?_ ?_ ?_ ?_
    · simp [insV]
    · simp [chkO]
    · simp
    · simp
    · simp [chkO]
    simp -implicitDefEqProofs +contextual [keys, callUpd, chkO, List.range_succ, e0, e1, e2, e3]
    refine callG_own [0] rfl (walk46 F C G ks kind (shape op).1.2.2.1 c) ?_ ?_ ?_ ?_ ?_ ?_
    · simp [insV]
    · simp [chkO]
    · simp
    · simp
    · simp [chkO]
    simp -implicitDefEqProofs +contextual [keys, callUpd, chkO, List.range_succ, e0, e1, e2, e3]
    refine EV.condT ?_
    simp -implicitDefEqProofs
    refine EV.seq ?_
    refine EV.regionG tabOK ?_ -- region 3
    simp -implicitDefEqProofs
    refine EV.ret ?_
    simp only [thenK_ret, blockK_ret, scopeK_ret, bodyK_ret]
    refine Fin.plain ?_ ?_
    · first | (simp [oneI, *]; done) | (simp_all [oneI]; done)
    · simp [List.range_succ, chkO]
  · skip
    refine EV.regionG tabOK ?_ -- region 2
    simp -implicitDefEqProofs +contextual [e0, insV]
    refine callG_own [0] rfl (walk46 F C G ks kind (shape op).1.1 a) ?_ ?_ ?_ ?_ ?_ ?_
    · simp [insV]
    · simp [chkO]
    · simp
    · simp
    · simp [chkO]
    simp -implicitDefEqProofs +contextual [keys, callUpd, chkO, List.range_succ, e0, e1, e2, e3, e4]
    refine callG_own [0] rfl (walk46 F C G ks kind (shape op).1.2.1 b) ?_ ?_ ?_ ?_ ?_ ?_
    · simp [insV]
    · simp [chkO]
    · simp
    · simp
    · simp [chkO]
    simp -implicitDefEqProofs +contextual [keys, callUpd, chkO, List.range_succ, e0, e1, e2, e3, e4]
    refine callG_own [0] rfl (walk46 F C G ks kind (shape op).1.2.2.1 c) ?_ ?_ ?_ ?_ ?_ ?_
    · simp [insV]
    · simp [chkO]
    · simp
    · simp
    · simp [chkO]
    simp -implicitDefEqProofs +contextual [keys, callUpd, chkO, List.range_succ, e0, e1, e2, e3, e4]
    refine callG_own [0] rfl (walk47 F C G ks kind op a b c l) ?_ ?_ ?_ ?_ ?_ ?_
    · simp [insV]
    · simp [chkO]
    · simp
    · simp
    · simp [chkO]
    simp -implicitDefEqProofs +contextual [keys, callUpd, chkO, List.range_succ, e0, e1, e2, e3, e4]
    refine EV.condT ?_
    simp -implicitDefEqProofs
    refine EV.seq ?_
    refine EV.regionG tabOK ?_ -- region 3
    simp -implicitDefEqProofs
    refine EV.ret ?_
    simp only [thenK_ret, blockK_ret, scopeK_ret, bodyK_ret]
    refine Fin.plain ?_ ?_
    · first | (simp [oneI, *]; done) | (simp_all [oneI]; done)
    · simp [List.range_succ, chkO]
  · skip
    refine EV.regionG tabOK ?_ -- region 2
    simp -implicitDefEqProofs +contextual [e0, insV]
    refine callG_own [0] rfl (walk46 F C G ks kind (shape op).1.1 a) ?_ ?_ ?_ ?_ ?_ ?_
    · simp [insV]
    · simp [chkO]
    · simp
    · simp
    · simp [chkO]
    simp -implicitDefEqProofs +contextual [keys, callUpd, chkO, List.range_succ, e0, e1, e2, e3, e4]
    refine callG_own [0] rfl (walk46 F C G ks kind (shape op).1.2.1 b) ?_ ?_ ?_ ?_ ?_ ?_
    · simp [insV]
    · simp [chkO]
    · simp
    · simp
    · simp [chkO]
    simp -implicitDefEqProofs +contextual [keys, callUpd, chkO, List.range_succ, e0, e1, e2, e3, e4]
    refine callG_own [0] rfl (walk46 F C G ks kind (shape op).1.2.2.1 c) ?_ ?_ ?_ ?_ ?_ ?_
    · simp [insV]
    · simp [chkO]
    · simp
    · simp
    · simp [chkO]
    simp -implicitDefEqProofs +contextual [keys, callUpd, chkO, List.range_succ, e0, e1, e2, e3, e4]
    refine callG_own [0] rfl (walk47 F C G ks kind op a b c l) ?_ ?_ ?_ ?_ ?_ ?_
    · simp [insV]
    · simp [chkO]
    · simp
    · simp
    · simp [chkO]
    simp -implicitDefEqProofs +contextual [keys, callUpd, chkO, List.range_succ, e0, e1, e2, e3, e4]
    refine EV.condT ?_
    simp -implicitDefEqProofs
    refine EV.skip ?_
    simp only [thenK_normal, blockK_normal, scopeK_normal]
    refine EV.seq ?_
    refine EV.seq ?_
    rcases cases4 l (shape op).1.2.2.2 with ⟨h0, hm, hl1⟩ | ⟨h0, hm, hl1⟩ | ⟨h0, hm, hl1⟩ | ⟨h0, hm, hl1⟩
    · skip
      refine EV.regionG tabOK ?_ -- region 4
      simp -implicitDefEqProofs +contextual [h0, hm, hl1]
      refine EV.condT ?_
      simp -implicitDefEqProofs
      refine EV.skip ?_
      simp only [thenK_normal, blockK_normal, scopeK_normal]
      refine EV.seq ?_
      refine EV.regionG tabOK ?_ -- region 6
      simp -implicitDefEqProofs
      refine callG_own [1, 0] rfl (walk48 F C G ks kind l hl) ?_ ?_ ?_ ?_ ?_ ?_
      · simp
      · simp [chkAt, chkO]
      · simp
      · simp
      · simp [chkAt]
      simp -implicitDefEqProofs [keys, callUpd, chkAt, chkO, List.range_succ]
      refine EV.ret ?_
      simp only [thenK_ret, blockK_ret, scopeK_ret, bodyK_ret]
      refine Fin.plain ?_ ?_
      · first | (simp [oneI, *]; done) | (simp_all [oneI]; done)
      · simp [List.range_succ, chkO]
    · skip
      refine EV.regionG tabOK ?_ -- region 4
      simp -implicitDefEqProofs +contextual [h0, hm, hl1]
      refine EV.condT ?_
      simp -implicitDefEqProofs
      refine EV.seq ?_
      refine EV.regionG tabOK ?_ -- region 5
      simp -implicitDefEqProofs
      refine EV.ret ?_
      simp only [thenK_ret, blockK_ret, scopeK_ret, bodyK_ret]
      refine Fin.plain ?_ ?_
      · first | (simp [oneI, *]; done) | (simp_all [oneI]; done)
      · simp [List.range_succ, chkO]
    · skip
      refine EV.regionG tabOK ?_ -- region 4
      simp -implicitDefEqProofs +contextual [h0, hm, hl1]
      refine EV.condT ?_
      simp -implicitDefEqProofs
      refine EV.seq ?_
      refine EV.regionG tabOK ?_ -- region 5
      simp -implicitDefEqProofs
      refine EV.ret ?_
      simp only [thenK_ret, blockK_ret, scopeK_ret, bodyK_ret]
      refine Fin.plain ?_ ?_
      · first | (simp [oneI, *]; done) | (simp_all [oneI]; done)
      · simp [List.range_succ, chkO]
    · skip
      refine EV.regionG tabOK ?_ -- region 4
      simp -implicitDefEqProofs +contextual [h0, hm, hl1]
      refine EV.condT ?_
      simp -implicitDefEqProofs
      refine EV.skip ?_
      simp only [thenK_normal, blockK_normal, scopeK_normal]
      refine EV.seq ?_
      refine EV.regionG tabOK ?_ -- region 6
      simp -implicitDefEqProofs
      refine callG_own [1, 0] rfl (walk48 F C G ks kind l hl) ?_ ?_ ?_ ?_ ?_ ?_
      · simp
      · simp [chkAt, chkO]
      · simp
      · simp
      · simp [chkAt]
      simp -implicitDefEqProofs [keys, callUpd, chkAt, chkO, List.range_succ]
      refine EV.ret ?_
      simp only [thenK_ret, blockK_ret, scopeK_ret, bodyK_ret]
      refine Fin.plain ?_ ?_
      · first | (simp [oneI, *]; done) | (simp_all [oneI]; done)
      · simp [List.range_succ, chkO]

end Go.Proofs.Tryd
end
section
namespace Go.Proofs.Tryd
open Go Go.AM
attribute [local simp] wpG_op wpG_nil contG_some wpG_guard guardG_v guardG_o guardG_tup gval pureOp stepG_if isPick pickG_pick pickB_b pickOK isCall step_move step_assign step_alloc step_box boxV_some step_load step_store step_binOp step_unOp step_fieldAddr faV step_indexAddr ixA_slc ixA_arr step_extract extV_tup step_nilCheck ncV_ptr ncV_rp ncV_fn ncV_mp step_build buildV step_buildSlice bsV step_index ixV_arr ixV_str step_append apB step_makeSlice msV_i step_makeFunc over step_len step_makeMap mmV step_mapUpdate step_insert muA_map muB_mp step_lookup lkA_map lkB_mp step_slice slcV_s slcV_sl slcV_ro cutB_some slObV_arr bound_none bound_some bndV_i lenB_str lenB_ro lenB_sl lenB_nil lenB_z ld_ptr ld_rp offV_ptr offV_rp idxV_ro idxV_sl unV_not unV_neg binV_int binV_str binV_eqlb binV_neqb intOp strOp St.put updL setOb St.ev toV St.lk cellsOf valOf TK.agg stv fillV places TI.zero condT_true condT_false finS resL resSlot packV ren ren1 ren0 Value.cells builtinV appendV elemsOf keepT room_of wrap_in toIdx Ob.ren passed Function.comp_def take_len_map lenV touchOf hid tab1 tab2 tab3 tab4 tab5 tab6 tab7 tab8 tab9 tab10 tab11 tab12 tab13 tab14 tab15 tab16 tab17 tab18 tab19 tab20 tab21 tab22 tab23 tab24 tab25 tab26 tab28 tab29 tab30 tab31 tab32 tab33 tab34 tab35 tab36 tab37 tab38 tab39 tab40 tab41 tab42 tab43 tab44 tab45 tab46 tab48 tab49 tab50 tab51 tab52 tab53 tab54 tab55 tab56 tab57 tab58 tab59 tab60 tab61 tab62 tab63 tab64 tab65 tab67 tab68 tab69 tab70 tab71 tab72 tab73 tab74 tab75 tab76 tab77 tab78 tab79 tab80 tab81 tab82 tab83 tab84 tab85 tab86 tab89 tab90 tab91 tab92 tab93 tab94 tab95 tab96 tab98 tab99 tab100 tab101 tab102 tab103 tab104 tab105 tab106 tab107 tab108 tab109 tab113 tab114 tab115 tab116 tab117 tab118 tab119 tab120 
set_option linter.unusedSimpArgs false
set_option maxRecDepth 10000
set_option maxHeartbeats 4000000

theorem walk50 (l : List Int) (hl : l.length ≤ 1000000) : QC prog 50 [.ro 1 (l.map fun z => [n z])] [] (.sl 0 1 0 l.length) [.arr 1 1 (l.map fun z => [n z])] := by
  refine QC.of_body tabOK func50 rfl (by kernel_rfl) ?_
  simp only [f50]
  refine EV.seq ?_
  refine EV.regionG tabOK ?_ -- region 0
  simp -implicitDefEqProofs
  refine EV.seq ?_
  refine EV.seq ?_
  refine EV.regionNil tabOK (by simp only [tab23]; rfl) rfl ?_ -- region 1
  simp -implicitDefEqProofs
  refine And.intro (fun hn1 => ?_) ?_
  · skip
    refine EV.condT ?_
    simp -implicitDefEqProofs
    refine EV.seq ?_
    have hl0 : l = [] := by simpa using hn1
    refine EV.regionG tabOK ?_ -- region 2
    simp -implicitDefEqProofs
    refine EV.sub (Sub.newNilE 1 2 1 (by decide) (by simp)) ?_
    simp -implicitDefEqProofs
    subst hl0
    refine EV.ret ?_
    simp only [thenK_ret, blockK_ret, scopeK_ret, bodyK_ret]
    refine Fin.own1 0 (by simp) ?_ ?_
    · simp
    · simp
  · skip
    refine EV.condT ?_
    simp -implicitDefEqProofs
    refine EV.skip ?_
    simp only [thenK_normal, blockK_normal, scopeK_normal]
    refine EV.seq ?_
    have hroom : roomFor l.length 8 := room_of hl (by decide)
    refine EV.regionG tabOK ?_ -- region 3
    simp -implicitDefEqProofs [hroom]
    refine EV.ret ?_
    simp only [thenK_ret, blockK_ret, scopeK_ret, bodyK_ret]
    refine Fin.own1 0 (by simp) ?_ ?_
    · simp
    · simp

end Go.Proofs.Tryd
end
