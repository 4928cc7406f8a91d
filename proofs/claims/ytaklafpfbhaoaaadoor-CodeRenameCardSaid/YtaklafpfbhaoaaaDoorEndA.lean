/- What any instruction reads, and writes, and whether it falls, is just what the document says: CodeReads, tied. No conditions. -/
import Derived.Test.YtaklafpfbhaoaaaDoorTie
import Derived.Test.YtaklafpfbhaoaaaDoorCards
import Derived.ProofKit
import Derived.OpenShut
import Derived.LaidMore
import Derived.Lay
import Derived.SevenTiedAt
import Derived.Stop.Joined
import Derived.Test.YtaklafpfbhaoaaaDoorMachD
import Derived.Test.YtaklafpfbhaoaaaDoorWalkA
import Derived.Test.YtaklafpfbhaoaaaDoorWalkD
set_option linter.unusedVariables false
set_option linter.unusedSimpArgs false
set_option linter.constructorNameAsVariable false
section
namespace Go.Proofs.Tryd
open Go Go.AM

theorem list_form {A B : Type} (g : A → B) : ∀ (es : List B), (∀ l ∈ es, ∃ a, l = g a) → ∃ l : List A, es = l.map g
  | [], _ => ⟨[], rfl⟩
  | e :: es, h => by
    obtain ⟨a, ha⟩ := h e List.mem_cons_self
    obtain ⟨r, hr⟩ := list_form g es fun l hl => h l (List.mem_cons_of_mem _ hl)
    exact ⟨a :: r, by rw [ha, hr]; rfl⟩

theorem shp_i64 {k : Nat} {t : TypeId} {xs : List V} (ht : (tab t).kind = .int .i64) (h : shp tab (k + 1) t xs) : ∃ m, xs = [n m] := by
  unfold shp at h
  rw [ht] at h
  obtain ⟨m, _, h⟩ := h
  exact ⟨m, h⟩

theorem shp_ints {k : Nat} {t : TypeId} {xs : List V} (ht : (tab t).kind = .slc 3) (h : shp tab (k + 2) t xs) : ∃ l : List Int, xs = [.ro 1 (l.map fun z => [n z])] := by
  unfold shp at h
  rw [ht] at h
  obtain ⟨es, _, h1, h2⟩ := h
  obtain ⟨l, hl⟩ := list_form (fun z : Int => [n z]) es fun r hr => shp_i64 (t := 3) rfl (h2 r hr)
  exact ⟨l, by rw [h1, hl]; rfl⟩

theorem shp_ins {k : Nat} {xs : List V} (h : shp tab (k + 3) 25 xs) : ∃ (op a b c : Int) (l : List Int), xs = [n op, n a, n b, n c, .ro 1 (l.map fun z => [n z])] := by
  unfold shp at h
  rw [show (tab 25).kind = .str [(0, 22), (1, 3), (2, 3), (3, 3), (4, 23)] from rfl] at h
  obtain ⟨yss, h1, h2, h3⟩ := h
  match yss, h2 with
  | [y0, y1, y2, y3, y4], _ =>
    obtain ⟨op, rfl⟩ := shp_i64 (t := 22) rfl (h3 0 _ _ rfl rfl)
    obtain ⟨a, rfl⟩ := shp_i64 (t := 3) rfl (h3 1 _ _ rfl rfl)
    obtain ⟨b, rfl⟩ := shp_i64 (t := 3) rfl (h3 2 _ _ rfl rfl)
    obtain ⟨c, rfl⟩ := shp_i64 (t := 3) rfl (h3 3 _ _ rfl rfl)
    obtain ⟨l, rfl⟩ := shp_ints (t := 23) rfl (h3 4 _ _ rfl rfl)
    exact ⟨op, a, b, c, l, by rw [h1]; rfl⟩
end Go.Proofs.Tryd
end
section
namespace Go.Proofs.Tryd
open Go Go.AM

theorem shp_str {k : Nat} {t : TypeId} {xs : List V} (ht : (tab t).kind = .string) (h : shp tab (k + 1) t xs) : ∃ s, xs = [.s s] := by
  unfold shp at h
  rw [ht] at h
  obtain ⟨s, _, h⟩ := h
  exact ⟨s, h⟩

theorem shp_insC {k : Nat} {xs : List V} (h : shp tab (k + 3) 25 xs) : ∃ x : InsD, xs = insC x := by
  obtain ⟨op, a, b, c, l, rfl⟩ := shp_ins h
  exact ⟨⟨op, a, b, c, l⟩, rfl⟩

theorem shp_co {k : Nat} {xs : List V} (h : shp tab (k + 2) 53 xs) : ∃ c : CoD, xs = coV c := by
  unfold shp at h
  rw [show (tab 53).kind = .str [(0, 9), (1, 3), (2, 3), (3, 3), (4, 3)] from rfl] at h
  obtain ⟨yss, h1, h2, h3⟩ := h
  match yss, h2 with
  | [y0, y1, y2, y3, y4], _ =>
    obtain ⟨nm, rfl⟩ := shp_str (t := 9) rfl (h3 0 _ _ rfl rfl)
    obtain ⟨a, rfl⟩ := shp_i64 (t := 3) rfl (h3 1 _ _ rfl rfl)
    obtain ⟨b, rfl⟩ := shp_i64 (t := 3) rfl (h3 2 _ _ rfl rfl)
    obtain ⟨c, rfl⟩ := shp_i64 (t := 3) rfl (h3 3 _ _ rfl rfl)
    obtain ⟨d, rfl⟩ := shp_i64 (t := 3) rfl (h3 4 _ _ rfl rfl)
    exact ⟨⟨nm, a, b, c, d⟩, by rw [h1]; rfl⟩

theorem shp_prog {k : Nat} {xs : List V} (h : shp tab (k + 6) 35 xs) : ∃ (funs : List (List InsD)) (cos : List CoD), xs = [.ro 1 (funs.map funC), .ro 5 (cos.map coV)] := by
  unfold shp at h
  rw [show (tab 35).kind = .str [(0, 32), (1, 33)] from rfl] at h
  obtain ⟨yss, h1, h2, h3⟩ := h
  match yss, h2 with
  | [y0, y1], _ =>
    have hf := h3 0 _ _ rfl rfl
    have hc := h3 1 _ _ rfl rfl
    unfold shp at hf hc
    rw [show (tab 32).kind = .slc 39 from rfl] at hf
    rw [show (tab 33).kind = .slc 53 from rfl] at hc
    obtain ⟨es, _, rfl, hes⟩ := hf
    obtain ⟨ds, _, rfl, hds⟩ := hc
    obtain ⟨funs, rfl⟩ := list_form funC es fun r hr => by
      have hr2 := hes r hr
      unfold shp at hr2
      rw [show (tab 39).kind = .slc 25 from rfl] at hr2
      obtain ⟨is, _, rfl, his⟩ := hr2
      obtain ⟨f, rfl⟩ := list_form insC is fun q hq => shp_insC (his q hq)
      exact ⟨f, rfl⟩
    obtain ⟨cos, rfl⟩ := list_form coV ds fun r hr => shp_co (hds r hr)
    exact ⟨funs, cos, by rw [h1]; rfl⟩
end Go.Proofs.Tryd
end
section
namespace Go.Proofs.Tryd
open Go Go.AM
set_option linter.unusedSimpArgs false

theorem opCases (op : Int) : (op = 0 ∨ op = 1 ∨ op = 2 ∨ op = 3 ∨ op = 4 ∨ op = 5 ∨ op = 6 ∨ op = 7 ∨ op = 8 ∨ op = 9 ∨ op = 10 ∨ op = 11 ∨ op = 12 ∨ op = 13 ∨ op = 14 ∨ op = 15 ∨ op = 16 ∨ op = 17 ∨ op = 18 ∨ op = 19 ∨ op = 20 ∨ op = 21 ∨ op = 22 ∨ op = 23 ∨ op = 24 ∨ op = 25 ∨ op = 26 ∨ op = 27 ∨ op = 28 ∨ op = 29) ∨ (op < 0 ∨ 29 < op) := by omega
theorem shape_out {op : Int} (h : op < 0 ∨ 29 < op) : shape op = ((0, 0, 0, 0), false) := by
  have k0 : ¬ op = 0 := by omega
  have k1 : ¬ op = 1 := by omega
  have k2 : ¬ op = 2 := by omega
  have k3 : ¬ op = 3 := by omega
  have k4 : ¬ op = 4 := by omega
  have k5 : ¬ op = 5 := by omega
  have k6 : ¬ op = 6 := by omega
  have k7 : ¬ op = 7 := by omega
  have k8 : ¬ op = 8 := by omega
  have k9 : ¬ op = 9 := by omega
  have k10 : ¬ op = 10 := by omega
  have k11 : ¬ op = 11 := by omega
  have k12 : ¬ op = 12 := by omega
  have k13 : ¬ op = 13 := by omega
  have k14 : ¬ op = 14 := by omega
  have k15 : ¬ op = 15 := by omega
  have k16 : ¬ op = 16 := by omega
  have k17 : ¬ op = 17 := by omega
  have k18 : ¬ op = 18 := by omega
  have k19 : ¬ op = 19 := by omega
  have k20 : ¬ op = 20 := by omega
  have k21 : ¬ op = 21 := by omega
  have k22 : ¬ op = 22 := by omega
  have k23 : ¬ op = 23 := by omega
  have k24 : ¬ op = 24 := by omega
  have k25 : ¬ op = 25 := by omega
  have k26 : ¬ op = 26 := by omega
  have k27 : ¬ op = 27 := by omega
  have k28 : ¬ op = 28 := by omega
  have k29 : ¬ op = 29 := by omega
  simp [shape, k0, k1, k2, k3, k4, k5, k6, k7, k8, k9, k10, k11, k12, k13, k14, k15, k16, k17, k18, k19, k20, k21, k22, k23, k24, k25, k26, k27, k28, k29]
theorem reads_plain (op a b c : Int) : rdl op a b c 3 = refR op a b c := by
  rcases opCases op with (rfl | rfl | rfl | rfl | rfl | rfl | rfl | rfl | rfl | rfl | rfl | rfl | rfl | rfl | rfl | rfl | rfl | rfl | rfl | rfl | rfl | rfl | rfl | rfl | rfl | rfl | rfl | rfl | rfl | rfl) | h
  all_goals first | rfl | skip
  have k0 : ¬ op = 0 := by omega
  have k1 : ¬ op = 1 := by omega
  have k2 : ¬ op = 2 := by omega
  have k3 : ¬ op = 3 := by omega
  have k4 : ¬ op = 4 := by omega
  have k5 : ¬ op = 5 := by omega
  have k6 : ¬ op = 6 := by omega
  have k7 : ¬ op = 7 := by omega
  have k8 : ¬ op = 8 := by omega
  have k9 : ¬ op = 9 := by omega
  have k10 : ¬ op = 10 := by omega
  have k11 : ¬ op = 11 := by omega
  have k12 : ¬ op = 12 := by omega
  have k13 : ¬ op = 13 := by omega
  have k14 : ¬ op = 14 := by omega
  have k15 : ¬ op = 15 := by omega
  have k16 : ¬ op = 16 := by omega
  have k17 : ¬ op = 17 := by omega
  have k18 : ¬ op = 18 := by omega
  have k19 : ¬ op = 19 := by omega
  have k20 : ¬ op = 20 := by omega
  have k21 : ¬ op = 21 := by omega
  have k22 : ¬ op = 22 := by omega
  have k23 : ¬ op = 23 := by omega
  have k24 : ¬ op = 24 := by omega
  have k25 : ¬ op = 25 := by omega
  have k26 : ¬ op = 26 := by omega
  have k27 : ¬ op = 27 := by omega
  have k28 : ¬ op = 28 := by omega
  have k29 : ¬ op = 29 := by omega
  simp [rdl, shape_out h, rd, refR, k0, k1, k2, k3, k4, k5, k6, k7, k8, k9, k10, k11, k12, k13, k14, k15, k16, k17, k18, k19, k20, k21, k22, k23, k24, k25, k26, k27, k28, k29]
theorem writes_plain (op : Int) : (shape op).1.1 = 2 ↔ refW op := by
  rcases opCases op with (rfl | rfl | rfl | rfl | rfl | rfl | rfl | rfl | rfl | rfl | rfl | rfl | rfl | rfl | rfl | rfl | rfl | rfl | rfl | rfl | rfl | rfl | rfl | rfl | rfl | rfl | rfl | rfl | rfl | rfl) | h
  all_goals first | decide | skip
  have k0 : ¬ op = 0 := by omega
  have k1 : ¬ op = 1 := by omega
  have k2 : ¬ op = 2 := by omega
  have k3 : ¬ op = 3 := by omega
  have k4 : ¬ op = 4 := by omega
  have k5 : ¬ op = 5 := by omega
  have k6 : ¬ op = 6 := by omega
  have k7 : ¬ op = 7 := by omega
  have k8 : ¬ op = 8 := by omega
  have k9 : ¬ op = 9 := by omega
  have k10 : ¬ op = 10 := by omega
  have k11 : ¬ op = 11 := by omega
  have k12 : ¬ op = 12 := by omega
  have k13 : ¬ op = 13 := by omega
  have k14 : ¬ op = 14 := by omega
  have k15 : ¬ op = 15 := by omega
  have k16 : ¬ op = 16 := by omega
  have k17 : ¬ op = 17 := by omega
  have k18 : ¬ op = 18 := by omega
  have k19 : ¬ op = 19 := by omega
  have k20 : ¬ op = 20 := by omega
  have k21 : ¬ op = 21 := by omega
  have k22 : ¬ op = 22 := by omega
  have k23 : ¬ op = 23 := by omega
  have k24 : ¬ op = 24 := by omega
  have k25 : ¬ op = 25 := by omega
  have k26 : ¬ op = 26 := by omega
  have k27 : ¬ op = 27 := by omega
  have k28 : ¬ op = 28 := by omega
  have k29 : ¬ op = 29 := by omega
  simp [shape_out h, refW, k0, k1, k2, k3, k4, k5, k6, k7, k8, k9, k10, k11, k12, k13, k14, k15, k16, k17, k18, k19, k20, k21, k22, k23, k24, k25, k26, k27, k28, k29]
theorem falls_plain (op : Int) : fallsI op = refF op := by
  rcases opCases op with (rfl | rfl | rfl | rfl | rfl | rfl | rfl | rfl | rfl | rfl | rfl | rfl | rfl | rfl | rfl | rfl | rfl | rfl | rfl | rfl | rfl | rfl | rfl | rfl | rfl | rfl | rfl | rfl | rfl | rfl) | h
  all_goals first | decide | skip
  have k0 : ¬ op = 0 := by omega
  have k1 : ¬ op = 1 := by omega
  have k2 : ¬ op = 2 := by omega
  have k3 : ¬ op = 3 := by omega
  have k4 : ¬ op = 4 := by omega
  have k5 : ¬ op = 5 := by omega
  have k6 : ¬ op = 6 := by omega
  have k7 : ¬ op = 7 := by omega
  have k8 : ¬ op = 8 := by omega
  have k9 : ¬ op = 9 := by omega
  have k10 : ¬ op = 10 := by omega
  have k11 : ¬ op = 11 := by omega
  have k12 : ¬ op = 12 := by omega
  have k13 : ¬ op = 13 := by omega
  have k14 : ¬ op = 14 := by omega
  have k15 : ¬ op = 15 := by omega
  have k16 : ¬ op = 16 := by omega
  have k17 : ¬ op = 17 := by omega
  have k18 : ¬ op = 18 := by omega
  have k19 : ¬ op = 19 := by omega
  have k20 : ¬ op = 20 := by omega
  have k21 : ¬ op = 21 := by omega
  have k22 : ¬ op = 22 := by omega
  have k23 : ¬ op = 23 := by omega
  have k24 : ¬ op = 24 := by omega
  have k25 : ¬ op = 25 := by omega
  have k26 : ¬ op = 26 := by omega
  have k27 : ¬ op = 27 := by omega
  have k28 : ¬ op = 28 := by omega
  have k29 : ¬ op = 29 := by omega
  have e : (decide (0 ≤ op) && decide (op ≤ 29)) = false := by
    rcases h with h | h
    · simp [show ¬ 0 ≤ op by omega]
    · simp [show ¬ op ≤ 29 by omega]
  rw [refF, e]
  simp [fallsI, shape_out h, k0, k1, k2, k3, k4, k5, k6, k7, k8, k9, k10, k11, k12, k13, k14, k15, k16, k17, k18, k19, k20, k21, k22, k23, k24, k25, k26, k27, k28, k29]
end Go.Proofs.Tryd
end
section
namespace Go.Proofs.Tryd
open Go Go.AM
attribute [local simp] wpG_op wpG_nil contG_some wpG_guard guardG_v guardG_o guardG_tup gval pureOp stepG_if isPick pickG_pick pickB_b pickOK isCall step_move step_assign step_alloc step_box boxV_some step_load step_store step_binOp step_unOp step_fieldAddr faV step_indexAddr ixA_slc ixA_arr step_extract extV_tup step_nilCheck ncV_ptr ncV_rp ncV_fn ncV_mp step_build buildV step_buildSlice bsV step_index ixV_arr ixV_str step_append apB step_makeSlice msV_i step_makeFunc over step_len step_makeMap mmV step_mapUpdate step_insert muA_map muB_mp step_lookup lkA_map lkB_mp step_slice slcV_s slcV_sl slcV_ro cutB_some slObV_arr bound_none bound_some bndV_i lenB_str lenB_ro lenB_sl lenB_nil lenB_z ld_ptr ld_rp offV_ptr offV_rp idxV_ro idxV_sl unV_not unV_neg binV_int binV_str binV_eqlb binV_neqb intOp strOp St.put updL setOb St.ev toV St.lk cellsOf AM.valOf TK.agg stv fillV places TI.zero condT_true condT_false finS resL resSlot packV ren ren1 ren0 Value.cells builtinV appendV elemsOf keepT room_of wrap_in toIdx passed Function.comp_def take_len_map lenV touchOf hid tab1 tab2 tab3 tab4 tab5 tab6 tab7 tab8 tab9 tab10 tab11 tab12 tab13 tab14 tab15 tab16 tab17 tab18 tab19 tab20 tab21 tab22 tab23 tab24 tab25 tab26 tab28 tab29 tab30 tab31 tab32 tab33 tab34 tab35 tab36 tab37 tab38 tab39 tab40 tab41 tab42 tab43 tab44 tab45 tab46 tab48 tab49 tab50 tab51 tab52 tab53 tab54 tab55 tab56 tab57 tab58 tab59 tab60 tab61 tab62 tab63 tab64 tab65 tab67 tab68 tab69 tab70 tab71 tab72 tab73 tab74 tab75 tab76 tab77 tab78 tab79 tab80 tab81 tab82 tab83 tab84 tab85 tab86 tab89 tab90 tab91 tab92 tab93 tab94 tab95 tab96 tab98 tab99 tab100 tab101 tab102 tab103 tab104 tab105 tab106 tab107 tab108 tab109 tab113 tab114 tab115 tab116 tab117 tab118 tab119 tab120 ren_arr ren_gone ren_unborn
set_option linter.unusedSimpArgs false
set_option maxRecDepth 10000
set_option maxHeartbeats 4000000

theorem walk3 (op a b c : Int) (l : List Int) : QC prog 3 [insV op a b c (.ro 1 (l.map fun z => [n z]))] [] (.b true) [] := by
  refine QC.of_body tabOK func3 rfl (by kernel_rfl) ?_
  simp only [f3, insV]
  refine EV.seq ?_
  refine EV.regionG tabOK ?_ -- region 0
  simp -implicitDefEqProofs
  refine EV.seq ?_
  refine EV.regionG tabOK ?_ -- region 1
  simp -implicitDefEqProofs
  refine callG_fun (walk10) ?_ ?_
  · simp [insV]
  simp -implicitDefEqProofs
  refine EV.seq ?_
  refine EV.seq ?_
  refine EV.regionG tabOK ?_ -- region 2
  simp -implicitDefEqProofs
  refine EV.condT ?_
  simp -implicitDefEqProofs
  refine EV.skip ?_
  simp only [thenK_normal, blockK_normal, scopeK_normal]
  refine EV.seq ?_
  have hWd : decide ((shape op).1.1 = 2) = decide (refW op) := by simp [writes_plain]
  have hWi : (if (shape op).1.1 = 2 then a else 0) = (if refW op then a else 0) := by simp [writes_plain]
  have hRl : (refR op a b c).length ≤ 9223372036854775807 := by rw [← reads_plain]; have := rdl_len op a b c 3; omega
  refine EV.regionG tabOK ?_ -- region 4
  simp -implicitDefEqProofs
  refine callG_fun (walk11 op a b c l) ?_ ?_
  · simp [insV]
  simp -implicitDefEqProofs [reads_plain, falls_plain, hWd, hWi]
  refine EV.seq ?_
  refine EV.regionG tabOK ?_ -- region 5
  simp -implicitDefEqProofs
  refine callG_fun (walk12 op a b c l) ?_ ?_
  · simp [insV]
  simp -implicitDefEqProofs
  refine EV.seq ?_
  refine EV.drawG tabOK mixedOK ?_ -- region 6
  simp -implicitDefEqProofs
  refine callG_fun (walk14 op a b c l) ?_ ?_
  · simp [insV]
  simp -implicitDefEqProofs [reads_plain, falls_plain, hWd, hWi]
  refine callG_fun (walk15 op a b c l) ?_ ?_
  · simp [insV]
  simp -implicitDefEqProofs [reads_plain, falls_plain, hWd, hWi]
  refine callG_fun (walk13 (refR op a b c) (refR op a b c) hRl) ?_ ?_
  · simp
  simp -implicitDefEqProofs
  refine And.intro ?_ ?_
  · first | decide +kernel | (simp -implicitDefEqProofs; decide +kernel)
  try simp -implicitDefEqProofs
  refine EV.seq ?_
  refine EV.drawG tabOK mixedOK ?_ -- region 7
  simp -implicitDefEqProofs +contextual [reads_plain, falls_plain, hWd, hWi]
  refine callG_fun (walk16 op a b c l) ?_ ?_
  · simp [insV]
  simp -implicitDefEqProofs [reads_plain, falls_plain, hWd, hWi]
  refine callG_fun (walk17 op a b c l) ?_ ?_
  · simp [insV]
  simp -implicitDefEqProofs [reads_plain, falls_plain, hWd, hWi]
  refine And.intro ?_ ?_
  · first | decide +kernel | (simp -implicitDefEqProofs; decide +kernel)
  try simp -implicitDefEqProofs
  refine EV.ret ?_
  simp only [thenK_ret, blockK_ret, scopeK_ret, bodyK_ret]
  refine Fin.pure0 ?_
  simp

end Go.Proofs.Tryd
end
section
namespace Go.Proofs.YtaklafpfbhaoaaaDoor
open Go.ChangeShapes Go.WideShapes Go.ChangeAt Go.RowKit Go.AM Go.Proofs.Tryd

theorem ownKnobNone : ownKnob Tryd.prog.godebug = none := by kernel_rfl
theorem laidOutAll : laidOutB Tryd.prog = true := by kernel_rfl

set_option maxRecDepth 100000 in
theorem readsLifted (HQ : ∀ xs, shp tab 3 25 xs → QC Tryd.prog 3 [.agg xs] [] (.b true) []) (os : Os) (started : os.Started) (H : Type) (enc : TypeId × Value → H) :
    ReturnsInHanded {} Tryd.checked os 3 .any (fun w args => (Rows.codeReadsSpec.pre enc Tryd.prog Tryd.f3 Rows.codeReadsRow.domain false w args ∧ laidMetH Tryd.prog Rows.codeReadsRow.laid w) ∧ sizedMet enc Tryd.prog Tryd.f3 (OpenSpec.ofChange Rows.codeReadsSpec) false w args)
      (Rows.codeReadsSpec.post enc Tryd.prog Tryd.f3 false true false false) := by
  refine returnsInHanded_of_change_and (C := Tryd.checked) (X := fun w _ => laidMetH Tryd.prog Rows.codeReadsRow.laid w) (fun _ _ _ hh h => h.of_heap hh) ownKnobNone started (by kernel_rfl) Tryd.func3
    (ChangeSpec.witness_shaped (enc := enc) (C := Tryd.checked) (os := os) (X := fun w _ => laidMetH Tryd.prog Rows.codeReadsRow.laid w) false (World.laidAll Tryd.prog os Rows.codeReadsRow.laid) #[.agg #[.int .i64 0, .int .i64 0, .int .i64 0, .int .i64 0, .slice none 0 0]] 8 (World.laidAll_os _ _ _)
      (World.shaped_of_ZipB (by kernel_rfl) (by kernel_rfl)) (by kernel_rfl) (by kernel_rfl) (by kernel_rfl)
      (by rw [MakeChecks.laidMetH_plain _ _ _ (by kernel_rfl)]; exact laidMet_laidAll _ (by kernel_rfl) (by kernel_rfl))) ?_
  intro W base args ds gs before hval0 hW _ _ _ _
  have hval : ∀ (j : Nat) t v, Tryd.f3.params[j]? = some t → args[j]? = some v → Value.okWide Tryd.prog W .any base t v := hval0
  have hW' := hW
  obtain ⟨p, q, hA0, hV, rfl, _, _⟩ := hW
  have hA : DataW.TrodAll enc Tryd.prog W 0 (fun _ => true) true Tryd.f3.params.toList args.toList ds p := hA0
  rw [Tryd.params3] at hA hval
  obtain ⟨v0, d0, rfl, rfl, h0⟩ := trodAll_one hA
  obtain ⟨rfl, rfl⟩ := trodVars_none hV
  simp only [List.append_nil] at hW'
  have hlt : ∀ x ∈ p, x.block < W.heap.size := fun x hx => by simpa using hW'.lt x hx
  obtain ⟨xs, hs, hr⟩ := arg_struct tabOK (T := tab) (n := 3) (t := 25) rfl (by decide +kernel) (hval 0 25 v0 rfl rfl) h0
  refine ((HQ xs hs).truth (vs := #[v0]) (W := W) rfl (fun ok hok D j x u hx hu => ?_)).mono fun e W' ⟨he, hb⟩ => ?_
  · cases j with
    | zero =>
      simp only [List.getElem?_cons_zero, Option.some.injEq] at hx
      subst hx
      obtain rfl : v0 = u := by simpa using hu
      exact hr ok hok D
    | succ j => simp at hx
  · subst he
    refine ⟨_, rfl, _, _, _, [], p, [], hW', ?_, ?_, ?_, hb.frame _, fun h => by cases h⟩
    · exact trodAll_mk1 (shut_bool Tryd.underlying4 true)
    · exact trodAll_mk1 (Below.trod laidOutAll (by kernel_rfl) (of_decide_eq_true (by kernel_rfl)) h0 hb hlt)
    · rfl

theorem readsHolds (HQ : ∀ xs, shp tab 3 25 xs → QC Tryd.prog 3 [.agg xs] [] (.b true) []) : Rows.CodeReadsSaid :=
  OpenClaim.holds_of_wide 3 Tryd.f3 rfl rfl rfl rfl rfl rfl rfl ⟨rfl, rfl, rfl, rfl, rfl⟩ rfl rfl rfl rfl rfl (by kernel_rfl) Tryd.func3 (by kernel_rfl)
    (of_decide_eq_true (by kernel_rfl)) (by unfold Func.isWrapper; rw [if_neg (by decide +kernel)]; exact ⟨rfl, rfl⟩)
    (fun os started H enc _ => readsLifted HQ os started H enc)

theorem readsCard (HQ : ∀ xs, shp tab 3 25 xs → QC Tryd.prog 3 [.agg xs] [] (.b true) []) : Rows.CodeReadsCardSaid :=
  Claim7.holds_tied_plain_at .later [] [.data, .data, .data] true (true, "e0d625a2e69adf01b107668993ea5ba20a030b330d5d389efb3f1299f4f792e2") false (readsHolds HQ) (fun _ h => by cases h) (by kernel_rfl) (fun _ h => by cases h) codeReads_row_tie rfl ⟨rfl, rfl⟩ (by kernel_rfl) rfl
    (fun f fn hf hfn => by
      obtain rfl : f = 3 := Option.some.inj ((show Tryd.prog.funcNamed "cocoon/cocoonlaw02.CodeReads" = some 3 by kernel_rfl).symm.trans hf) |>.symm
      obtain rfl : fn = Tryd.f3 := (Option.some.inj (Tryd.func3.symm.trans hfn)).symm
      exact ⟨by kernel_rfl, fun j t ht => by
        rw [Tryd.params3] at ht
        have hm : t ∈ [25] := by simpa using Array.mem_of_getElem? ht
        have hall : ([25].all fun u => !Tryd.prog.wantsStandIn u) = true := by kernel_rfl
        exact (show Tryd.prog.wantsStandIn t = false by simpa using List.all_eq_true.1 hall t hm)⟩)
    (by kernel_rfl)
end Go.Proofs.YtaklafpfbhaoaaaDoor
end
section
namespace Go.Proofs.YtaklafpfbhaoaaaDoor
open Go.AM Go.Proofs.Tryd

theorem codeReads_card : Rows.CodeReadsCardSaid := readsCard fun xs h => by
  obtain ⟨op, a, b, c, l, rfl⟩ := shp_ins (k := 0) h
  exact walk3 op a b c l
end Go.Proofs.YtaklafpfbhaoaaaDoor
end
