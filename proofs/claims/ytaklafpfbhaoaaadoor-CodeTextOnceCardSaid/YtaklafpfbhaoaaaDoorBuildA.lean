/- Contracts of a string builder's methods, in the model's own words; the text of any number. -/
import Derived.Test.YtaklafpfbhaoaaaDoorChecked
import Derived.Eval
import Derived.Lib.Builder
import Derived.Lib.UnsafeStr
import Derived.Lib.Walk
import Derived.WalkKit
import Derived.Laws.Externs
import Derived.Laws.IdiomCopy
import Derived.Shelf.RegionOpenPlain
import Derived.Lib.Strings
import Derived.Lib.Slices
import Derived.Lib.AppendStr
import Derived.Lib.MakeNoZero
import Derived.Shelf.LaysM
import Derived.Shelf.Strconv.Itoa3
import Derived.Test.YtaklafpfbhaoaaaDoorProg
import Derived.Test.YtaklafpfbhaoaaaDoorMachD
import Derived.Test.YtaklafpfbhaoaaaDoorMachE
import Derived.Test.YtaklafpfbhaoaaaDoorWalkA
set_option linter.unusedVariables false
set_option linter.unusedSimpArgs false
set_option linter.constructorNameAsVariable false
section
namespace Go.Proofs.Tryd
open Go Go.AM

theorem b43_size : (prog.info? 63).map (·.size) = some 2 := by kernel_rfl
theorem b43_lies : liesAt prog prog.depth 63 (2 / prog.cellsOf 63) 0 63 1 = true := by kernel_rfl

set_option maxHeartbeats 1000000 in
set_option maxRecDepth 100000 in
theorem check_used (b : Nat) (w : World) (h0 : w.cell? ⟨b, 0, none⟩ = some (.pointer (some ⟨b, 0, none⟩))) :
    Calls prog 43 #[.pointer (some ⟨b, 0, none⟩)] w fun e w' => e = .returned (.tuple #[]) ∧ w' = w := by
  obtain ⟨j, hj, _⟩ := Option.map_eq_some_iff.1 b43_size
  go_enter func43, ntmps43
  go_wp2
  rw [Lib.run_neq_ptr_same w _ underlying60 hj]
  go_wp2
  go_end0
  exact ⟨rfl, rfl⟩

set_option maxHeartbeats 1000000 in
set_option maxRecDepth 100000 in
theorem check_fresh (b : Nat) (w : World) (h0 : w.cell? ⟨b, 0, none⟩ = some (.pointer none)) (hsh : w.shape? b = some (63, 2)) (hfz : w.frozen? ⟨b, 0, none⟩ = false) :
    Calls prog 43 #[.pointer (some ⟨b, 0, none⟩)] w fun e w' => e = .returned (.tuple #[]) ∧ w' = w.setCell ⟨b, 0, none⟩ (.pointer (some ⟨b, 0, none⟩)) := by
  obtain ⟨j, hj, hjs⟩ := Option.map_eq_some_iff.1 b43_size
  go_enter func43, ntmps43
  go_wp2
  rw [Lib.run_to_unsafe w ⟨b, 0, none⟩ underlying60 underlying88 hj (by rw [hjs]; decide) hsh (Nat.zero_lt_succ 1)]
  simp only [Result.andThen]
  rw [Oper.upon_value]
  go_wp2
  rw [run_callFunc_extern func53 (by kernel_rfl) (by kernel_rfl) (by kernel_rfl) (e := Extern.AbiNoEscape.same) (by kernel_rfl)]
  rw [Lib.run_noEscape]
  simp only [Result.andThen]
  rw [Oper.upon_value]
  go_wp2
  rw [Lib.run_from_unsafe w ⟨b, 0, none⟩ underlying88 underlying60 hj hsh b43_lies]
  simp only [Result.andThen]
  rw [Oper.upon_value]
  go_wp2
  go_end0
  exact ⟨rfl, rfl⟩
end Go.Proofs.Tryd
end
section
namespace Go.Proofs.Tryd
open Go Go.AM Go.Lib

theorem b35_cells : prog.cellsOf 5 = 1 := by kernel_rfl

set_option maxHeartbeats 2000000 in
set_option maxRecDepth 100000 in
theorem string_at (b g cap : Nat) (p : Value) (c : Array Value) (l : List UInt8) (w : World) (hbk : w.heap[b]? = some (.cells #[p, .slice (some ⟨g, 0, none⟩) l.length cap] 63 (0, 0))) (h0 : l ≠ [])
    (hg : w.heap[g]? = some (.cells c 5 (0, 0))) (hn : l.length ≤ c.size) (hcap : l.length ≤ cap) (h63 : l.length ≤ 9223372036854775807) (hcs : ∀ (j : Nat) (x : UInt8), l[j]? = some x → c[j]? = some (Value.int .u8 x.toNat)) :
    Calls prog 35 #[.pointer (some ⟨b, 0, none⟩)] w fun e w' => e = .returned (.string ⟨l.toArray⟩) ∧ w' = w.drew.freeze ⟨g, 0, none⟩ l.length := by
  have hl0 : l.length ≠ 0 := by simpa using h0
  have c1 : w.drew.cell? ⟨b, 1, none⟩ = some (.slice (some ⟨g, 0, none⟩) l.length cap) := by
    have : w.drew.heap[b]? = some (.cells #[p, .slice (some ⟨g, 0, none⟩) l.length cap] 63 (0, 0)) := hbk
    rw [Lib.cell_of_heap this]; rfl
  have hSD : (Builtin.unsafeSliceData_ #[61] 79 #[.slice (some ⟨g, 0, none⟩) l.length cap]).run prog w.drew = .ok (.pointer (some ⟨g, 0, none⟩)) w.drew :=
    Lib.run_unsafeSliceData_row _ _ _ _ _ _ (by omega)
  have hg' : w.drew.heap[g]? = some (.cells c 5 (0, 0)) := hg
  have hUS : (Builtin.unsafeString_ #[79, 3] 9 #[.pointer (some ⟨g, 0, none⟩), .int .i64 l.length]).run prog w.drew = .ok (.string ⟨l.toArray⟩) (w.drew.freeze ⟨g, 0, none⟩ l.length) := by
    refine Lib.run_unsafeString_row w.drew 79 3 9 5 underlying79 b35_cells g c.size (by simp [World.shape?, hg']) l h0 hn h63 ?_
    intro j x hx
    rw [show (⟨g, 0, none⟩ : Addr).add j = ⟨g, 0 + j, none⟩ by unfold Addr.add; split <;> simp_all]
    rw [Lib.cell_of_heap hg', Nat.zero_add]
    exact hcs j x hx
  have mixed := Go.Checked.mixed Go.Proofs.Tryd.checked
  go_enter func35, ntmps35
  go_wp2
  go_region_o
  all_goals (go_wp2; go_ret; exact ⟨rfl, rfl⟩)
end Go.Proofs.Tryd
end
section
namespace Go.Proofs.Tryd
open Go Go.AM Go.Lib

theorem FOK_of {P : Program} {f : FuncId} {fn : Func} {c : Code} (hf : P.funcs[f]? = some fn) (hb : fn.body = some c) (hname : (fn.name == "runtime.NumGoroutine") = false) : FOK P f := by
  intro vs w
  have hne : ¬ (fn.name = "runtime.NumGoroutine") := by simpa using hname
  simp [callFunc, hf, hb, hne]

set_option maxHeartbeats 2000000 in
set_option maxRecDepth 100000 in
theorem string_nil (b : Nat) (p : Value) (w : World) (hbk : w.heap[b]? = some (.cells #[p, .slice none 0 0] 63 (0, 0))) :
    Calls prog 35 #[.pointer (some ⟨b, 0, none⟩)] w fun e w' => e = .returned (.string ⟨#[]⟩) ∧ w' = w.drew := by
  have hUS : ∀ W : World, (Builtin.unsafeString_ #[79, 3] 9 #[.pointer none, .int .i64 0]).run prog W = .ok (.string .empty) W := fun W => Lib.run_unsafeString_none W _ _ _ none
  have c1 : w.drew.cell? ⟨b, 1, none⟩ = some (.slice none 0 0) := by
    have : w.drew.heap[b]? = some (.cells #[p, .slice none 0 0] 63 (0, 0)) := hbk
    rw [Lib.cell_of_heap this]; rfl
  have hSD : (Builtin.unsafeSliceData_ #[61] 79 #[.slice none 0 0]).run prog w.drew = .ok (.pointer none) w.drew := rfl
  have mixed := Go.Checked.mixed Go.Proofs.Tryd.checked
  go_enter func35, ntmps35
  go_wp2
  go_region_o
  all_goals (go_wp2; go_ret; exact ⟨rfl, rfl⟩)

/-- What is known of a builder that is handed in. -/
theorem var2 {E : Env} {m : Locs} {objs : List Ob} {w : World} {p v : V} (R : HRel E m objs w) (ho : objs.getD 0 .unborn = .var 63 [p, v]) :
    ∃ blk u0 u1, m 0 = some (blk, 0) ∧ w.heap[blk]? = some (.cells #[u0, u1] 63 (0, 0)) ∧ VRel (dirOf m objs) (okc E m objs) w p u0 ∧ VRel (dirOf m objs) (okc E m objs) w v u1 := by
  have hob := R.obs 0
  rw [ho] at hob
  obtain ⟨blk, c, hm, hc, hsz, _, hcs⟩ := hob
  obtain ⟨u0, h1, _, h2⟩ := hcs 0 p rfl
  obtain ⟨u1, h3, _, h4⟩ := hcs 1 v rfl
  refine ⟨blk, u0, u1, hm, ?_, h2, h4⟩
  rw [hc]
  congr 2
  apply Array.ext
  · simpa using hsz
  · intro i hi _
    have hi2 : i < 2 := by rw [hsz] at hi; simpa using hi
    rcases i with _ | _ | i
    · rw [Array.getElem?_eq_getElem (by omega)] at h1; simpa using h1
    · rw [Array.getElem?_eq_getElem (by omega)] at h3; simpa using h3
    · omega

theorem self_ptr {E : Env} {m : Locs} {objs : List Ob} {w : World} {p v : V} {blk fl : Nat} {u : Value} (ho : objs.getD 0 .unborn = .var 63 [p, v]) (hm : m 0 = some (blk, 0)) (hv : VRel (dirOf m objs) (okc E m objs) w (.ptr 0 0 0 fl) u) : u = .pointer (some ⟨blk, fl, none⟩) := by
  have := var_ptr ho hm hv
  rwa [Nat.zero_add] at this

theorem arg1 {vs : Array Value} {x : V} (h : vs.size = [x].length) : ∃ u, vs = #[u] := by
  obtain ⟨l⟩ := vs
  cases l with
  | nil => simp at h
  | cons a l =>
    cases l with
    | nil => exact ⟨a, rfl⟩
    | cons => simp at h

theorem walk43u (v : V) (rest : List Ob) : QC prog 43 [.ptr 0 0 0 0] (.var 63 [.ptr 0 0 0 0, v] :: rest) (.tup []) (.var 63 [.ptr 0 0 0 0, v] :: rest) := by
  refine ⟨FOK_of func43 rfl (by kernel_rfl), fun w vs m ok _ R hsz hv => ?_⟩
  obtain ⟨u, rfl⟩ := arg1 hsz
  obtain ⟨blk, u0, u1, hm, hc, h0, h1⟩ := var2 R rfl
  obtain rfl := self_ptr rfl hm (hv 0 _ u rfl rfl)
  obtain rfl := self_ptr rfl hm h0
  refine (check_used blk w (by rw [Lib.cell_of_heap hc]; rfl)).mono ?_
  rintro e w' ⟨rfl, rfl⟩
  exact ⟨_, m, rfl, R, .tup [] [] rfl (fun j x u hx _ => by simp at hx)⟩

theorem walk43n (v : V) (rest : List Ob) : QC prog 43 [.ptr 0 0 0 0] (.var 63 [.c (.pointer none), v] :: rest) (.tup []) (.var 63 [.ptr 0 0 0 0, v] :: rest) := by
  refine ⟨FOK_of func43 rfl (by kernel_rfl), fun w vs m ok _ R hsz hv => ?_⟩
  obtain ⟨u, rfl⟩ := arg1 hsz
  obtain ⟨blk, u0, u1, hm, hc, h0, h1⟩ := var2 R rfl
  have hself := hv 0 _ u rfl rfl
  obtain rfl := self_ptr rfl hm hself
  obtain rfl := h0.c_inv
  have hc0 : w.cell? ⟨blk, 0, none⟩ = some (.pointer none) := by rw [Lib.cell_of_heap hc]; rfl
  have hf0 : w.frozen? ⟨blk, 0, none⟩ = false := by simp [World.frozen?, hc]
  refine (check_fresh blk w hc0 (by simp [World.shape?, hc]) hf0).mono ?_
  rintro e w' ⟨rfl, rfl⟩
  obtain ⟨w2, hr, H, hmono⟩ := R.writeVar (P := prog) (o := 0) (fl := 0) rfl hm (cs := [.ptr 0 0 0 0]) (by simp) (us := [.pointer (some ⟨blk, 0, none⟩)]) rfl (by simp [Value.oneCell']) (fun j x u hx hu => by
    cases j with
    | zero => simp at hx hu; subst hx; subst hu; exact hself
    | succ j => simp at hx)
  have hr2 := run_storeCells_cells (P := prog) blk 0 [.pointer (some ⟨blk, 0, none⟩)] 0 w (fun j hj => by
    have : j = 0 := by simpa using hj
    subst this; simp [hc0]) (fun j hj => by
    have : j = 0 := by simpa using hj
    subst this; simpa using hf0) (by simp [Value.oneCell'])
  rw [Nat.zero_add] at hr
  rw [hr] at hr2
  have hw2 : w2 = w.setCell ⟨blk, 0, none⟩ (.pointer (some ⟨blk, 0, none⟩)) := by
    have := (Result.ok.inj hr2).2
    simpa [World.setCells] using this
  subst hw2
  exact ⟨_, m, rfl, H, .tup [] [] rfl (fun j x u hx _ => by simp at hx)⟩
end Go.Proofs.Tryd
end
section
namespace Go.Proofs.Tryd
open Go Go.AM Go.Lib

theorem WExt.freeze {S : Nat → Prop} (w : World) (p : Addr) (n : Nat) (hS : S p.block) : WExt S w (w.freeze p n) := by
  unfold World.freeze
  split
  · exact WExt.refl S w
  · refine ⟨rfl, rfl, rfl, by simp, fun b hb hn => ?_, fun b c e fr h => ?_⟩
    · have hne : p.block ≠ b := fun e => hn (e ▸ hS)
      simp [Array.getElem?_modify, hne]
    · by_cases hpb : p.block = b
      · subst hpb
        obtain ⟨lo, hi⟩ := fr
        refine ⟨c, if (lo == hi) = true then (p.off, p.off + n) else (min lo p.off, max hi (p.off + n)), ?_, rfl⟩
        simp only [Array.getElem?_modify, if_true, h, Option.map_some]
      · exact ⟨c, fr, by simp [Array.getElem?_modify, hpb, h], rfl⟩

/-- All that was handed in is given up. -/
theorem HRel.allGone {E : Env} {m : Locs} {objs objs' : List Ob} {w w' : World} (R : HRel E m objs w) (hl : objs'.length = objs.length) (hg : ∀ ob ∈ objs', ob = .gone) (hx : WExt E.own w w') : HRel E m objs' w' := by
  have hdead : ∀ o, ¬ live (objs'.getD o .unborn) := by
    intro o
    rw [List.getD_eq_getElem?_getD]
    cases ho : objs'[o]? with
    | none => simp [live]
    | some ob => rw [hg ob (List.mem_of_getElem? ho)]; simp [live]
  refine ⟨R.ext.trans' hx (fun x _ h => h), fun o blk off h _ => (hdead o h).elim, fun o o' blk off off' h _ => (hdead o h).elim, fun o => ?_, fun o blk off h _ => (hdead o h).elim, fun o d hd => ?_⟩
  · rw [List.getD_eq_getElem?_getD]
    cases ho : objs'[o]? with
    | none => trivial
    | some ob => rw [hg ob (List.mem_of_getElem? ho)]; trivial
  · obtain ⟨d', h1, h2⟩ := R.dle o d hd
    rw [dirOf_eq] at h1
    have hlt : o < objs'.length := by
      rw [hl]
      rcases Nat.lt_or_ge o objs.length with h | h
      · exact h
      · have : objs.getD o .unborn = .unborn := by simp [List.getD, List.getElem?_eq_none h]
        rw [this] at h1; cases h1
    refine ⟨.gone, ?_, .gone _⟩
    rw [dirOf_eq, List.getD_eq_getElem?_getD, List.getElem?_eq_getElem hlt, Option.getD_some, hg _ (List.getElem_mem hlt)]
    rfl

theorem sl_at {D : Dir} {ok : Nat → Prop} {w : World} {o ep off n sz : Nat} {loc : Option (Nat × Nat)} {u : Value} (h : VRel D ok w (.sl o ep off n) u) (hn : n ≠ 0) (hD : D o = some (.arr ep sz loc)) :
    ∃ g o0 cap, loc = some (g, o0) ∧ u = .slice (some ⟨g, o0 + off * sz, none⟩) n cap ∧ n ≤ cap := by
  cases h with
  | pure h => cases h
  | sl0 => exact absurd rfl hn
  | slS _ _ _ _ _ d _ hD2 hst _ =>
    rw [hD] at hD2
    obtain rfl := Option.some.inj hD2
    exact (stale_arr hst).elim
  | sl _ _ _ _ sz2 g o0 cap cl e fr hD2 hcap hb hf =>
    rw [hD] at hD2
    simp only [Option.some.injEq, DE.arr.injEq, true_and] at hD2
    obtain ⟨rfl, rfl⟩ := hD2
    exact ⟨g, o0, cap, rfl, rfl, hcap⟩

def byteV (b : UInt8) : List V := [.i .u8 (b.toNat : Int)]

theorem walk35n (p : V) : QC prog 35 [.ptr 0 0 0 0] [.var 63 [p, .c (.slice none 0 0)]] (.s []) [.gone] := by
  refine ⟨FOK_of func35 rfl (by kernel_rfl), fun w vs m ok _ R hsz hv => ?_⟩
  obtain ⟨u, rfl⟩ := arg1 hsz
  obtain ⟨blk, u0, u1, hm, hc, h0, h1⟩ := var2 R rfl
  obtain rfl := self_ptr rfl hm (hv 0 _ u rfl rfl)
  obtain rfl := h1.c_inv
  refine (string_nil blk u0 w hc).mono ?_
  rintro e w' ⟨rfl, rfl⟩
  exact ⟨_, m, rfl, HRel.allGone R rfl (by simp) (WExt.drew _ _), .str []⟩

theorem walk35r (ep : Nat) (l : List UInt8) (hl : l ≠ []) (p : V) : QC prog 35 [.ptr 0 0 0 0] [.var 63 [p, .sl 1 ep 0 l.length], .row 5 ep (l.map byteV)] (.s l) [.gone, .gone] := by
  refine ⟨FOK_of func35 rfl (by kernel_rfl), fun w vs m ok _ R hsz hv => ?_⟩
  obtain ⟨u, rfl⟩ := arg1 hsz
  obtain ⟨blk, u0, u1, hm, hc, h0, h1⟩ := var2 R rfl
  obtain rfl := self_ptr rfl hm (hv 0 _ u rfl rfl)
  have hlen : l.length ≠ 0 := by simpa using hl
  have hob : OKo _ _ w (m 1) (.row 5 ep (l.map byteV)) := R.obs 1
  have hD1 : dirOf m [Ob.var 63 [p, V.sl 1 ep 0 l.length], Ob.row 5 ep (l.map byteV)] 1 = some (.arr ep 1 (m 1)) := rfl
  obtain ⟨g, o0, cap, hm1, rfl, hcap⟩ := sl_at h1 hlen hD1
  · skip
    rw [hm1] at hob
    obtain ⟨_, hmost, rfl, c, hcg, hsz2, hcs⟩ := hob
    rw [List.length_map] at hmost hsz2
    have hcs' : ∀ (j : Nat) (x : UInt8), l[j]? = some x → c[j]? = some (Value.int .u8 x.toNat) := by
      intro j x hx
      obtain ⟨u, h2, _, h3⟩ := hcs j 0 (.i .u8 (x.toNat : Int)) (by rw [List.getElem?_map, hx]; rfl)
      rw [Nat.zero_add, Nat.mul_one, Nat.add_zero] at h2
      rw [h2, h3.i_inv]
    have hc' : w.heap[blk]? = some (.cells #[u0, .slice (some ⟨g, 0, none⟩) l.length cap] 63 (0, 0)) := by simpa using hc
    refine (string_at blk g cap u0 c l w hc' hl hcg (by omega) hcap (by unfold most at hmost; exact hmost) hcs').mono ?_
    rintro e w' ⟨rfl, rfl⟩
    refine ⟨_, m, rfl, HRel.allGone R rfl (by simp) ((WExt.drew _ w).trans (WExt.freeze _ _ _ ?_)), .str l⟩
    exact ⟨1, 0, trivial, hm1⟩
theorem ren_var {μ : Nat → Option Nat} {t : TypeId} {cs : List V} : (Ob.var t cs).ren μ = .var t (cs.map (ren0 μ)) := rfl
theorem ren_row {μ : Nat → Option Nat} {e : TypeId} {ep : Nat} {es : List (List V)} : (Ob.row e ep es).ren μ = .row e ep (es.map fun x => x.map (ren0 μ)) := rfl
end Go.Proofs.Tryd
end
section
namespace Go.Proofs.Tryd
open Go Go.AM Go.Lib

theorem b55_size : (prog.info? 5).map (·.size) = some 1 := by kernel_rfl

set_option maxHeartbeats 2000000 in
set_option maxRecDepth 1000000 in
theorem grow_at (b n : Nat) (p : Value) (w : World) (hbk : w.heap[b]? = some (.cells #[p, .slice none 0 0] 63 (0, 0))) (hn : n ≤ 281474976710656) :
    Calls prog 58 #[.pointer (some ⟨b, 0, none⟩), .int .i64 n] w fun e w' => e = .returned (.tuple #[]) ∧ ∃ cs : Array Value, n ≤ cs.size ∧ cs.size ≤ maxLen ∧ w' = ((w.setCell ⟨b, 1, none⟩ (.slice (some ⟨w.heap.size, 0, none⟩) 0 cs.size)).alloc (.cells cs 5)).drew.drew.drew := by
  obtain ⟨cs, hrun, hle, hmax⟩ := Lib.run_makeNoZero (P := prog) w.drew #[3] 61 5 underlying61 n hn
  have hw : IntKind.i64.wrap (IntKind.i64.wrap 0 + (n : Int)) = n := by
    rw [IntKind.wrap_i64, IntKind.wrap_i64]
    omega
  have hcall : (callFunc 63 #[.int .i64 (IntKind.i64.wrap (IntKind.i64.wrap 0 + (n : Int)))]).run prog w.drew = .ok (.value (.slice (some ⟨w.drew.heap.size, 0, none⟩) n cs.size)) (w.drew.drew.drew.alloc (.cells cs 5)) := by
    rw [hw, run_callFunc_extern func63 (by kernel_rfl) (by kernel_rfl) (by kernel_rfl) (e := Extern.BytealgMakeNoZero.makeNoZero #[3] #[61]) (by kernel_rfl), hrun]
    rfl
  have hlt : b < w.heap.size := by
    rcases Nat.lt_or_ge b w.heap.size with h' | h'
    · exact h'
    · simp [Array.getElem?_eq_none h'] at hbk
  have c1 : w.drew.cell? ⟨b, 1, none⟩ = some (.slice none 0 0) := by
    have : w.drew.heap[b]? = _ := hbk
    rw [Lib.cell_of_heap this]; rfl
  have c2 : (w.alloc (.cells cs 5)).cell? ⟨b, 1, none⟩ = some (.slice none 0 0) := by
    have : (w.alloc (.cells cs 5)).heap[b]? = _ := (Lib.alloc_old w _ b hlt).trans hbk
    rw [Lib.cell_of_heap this]; rfl
  have f2 : (w.alloc (.cells cs 5)).frozen? ⟨b, 1, none⟩ = false := Lib.frozen_of_heap ((Lib.alloc_old w _ b hlt).trans hbk) 1
  have hcopy : ∀ W : World, (Builtin.copy_ #[61, 61] 3 #[.slice (some ⟨w.heap.size, 0, none⟩) 0 cs.size, .slice none 0 0]).run prog W = .ok (goInt 0) W :=
    fun W => run_copy_none W 61 61 3 5 _ _ 0 cs.size 0 0 underlying61 b55_size rfl
  clear hw
  have mixed := Go.Checked.mixed Go.Proofs.Tryd.checked
  go_enter func58, ntmps58
  go_wp2
  have hfin := hmax (by unfold maxLen; omega)
  go_region_o
  all_goals (go_wp2; go_end0; exact ⟨rfl, cs, hle, hfin, rfl⟩)

end Go.Proofs.Tryd
end
section
namespace Go.Proofs.Tryd
open Go Go.AM Go.Lib

set_option maxHeartbeats 2000000 in
set_option maxRecDepth 1000000 in
theorem Grow_at (b n : Nat) (w : World) (hbk : w.heap[b]? = some (.cells #[.pointer none, .slice none 0 0] 63 (0, 0))) (h1 : 1 ≤ n) (hn : n ≤ 281474976710656) :
    Calls prog 55 #[.pointer (some ⟨b, 0, none⟩), .int .i64 n] w fun e w' => e = .returned (.tuple #[]) ∧ ∃ cs : Array Value, n ≤ cs.size ∧ cs.size ≤ maxLen ∧
      w' = (((w.setCell ⟨b, 0, none⟩ (.pointer (some ⟨b, 0, none⟩))).setCell ⟨b, 1, none⟩ (.slice (some ⟨w.heap.size, 0, none⟩) 0 cs.size)).alloc (.cells cs 5)).drew.drew.drew.drew := by
  have hbk1 : (w.setCell ⟨b, 0, none⟩ (.pointer (some ⟨b, 0, none⟩))).heap[b]? = some (.cells #[.pointer (some ⟨b, 0, none⟩), .slice none 0 0] 63 (0, 0)) := by
    simp [World.setCell, Array.getElem?_modify, hbk]
  have hsz1 : (w.setCell ⟨b, 0, none⟩ (.pointer (some ⟨b, 0, none⟩))).drew.heap.size = w.heap.size := by simp [World.setCell, World.drew, -World.drew_eq]
  have c1 : (w.setCell ⟨b, 0, none⟩ (.pointer (some ⟨b, 0, none⟩))).cell? ⟨b, 1, none⟩ = some (.slice none 0 0) := by rw [Lib.cell_of_heap hbk1]; rfl
  have mixed := Go.Checked.mixed Go.Proofs.Tryd.checked
  have e43 : ∀ args w, (callFunc 43 args).run prog w = .ok (.enter 43 args) w := enters_of func43 (by kernel_rfl) rfl
  have e58 : ∀ args w, (callFunc 58 args).run prog w = .ok (.enter 58 args) w := enters_of func58 (by kernel_rfl) rfl
  go_enter func55, ntmps55
  have c1' : (w.setCell ⟨b, 0, none⟩ (.pointer (some ⟨b, 0, none⟩))).drew.cell? ⟨b, 1, none⟩ = some (.slice none 0 0) := c1
  go_wp2_with (go_at_fn 43; refine (check_fresh b w (by rw [Lib.cell_of_heap hbk]; rfl) (by simp [World.shape?, hbk]) (Lib.frozen_of_heap hbk 0)).mono ?_; rintro e w' ⟨rfl, rfl⟩)
  go_region_o
  all_goals go_wp2_with (go_at_fn 58; refine (grow_at b n _ (w.setCell ⟨b, 0, none⟩ (.pointer (some ⟨b, 0, none⟩))).drew hbk1 hn).mono ?_; rintro e w' ⟨rfl, cs, h2, h3, rfl⟩)
  all_goals (go_end0; exact ⟨rfl, cs, h2, h3, rfl⟩)
end Go.Proofs.Tryd
end
section
set_option linter.unusedVariables false
set_option linter.unusedSimpArgs false
namespace Go.Proofs.Tryd
open Go Go.AM Go.Lib

theorem HRel.drew1 {E : Env} {m : Locs} {h : List Ob} {w : World} (R : HRel E m h w) : HRel E m h w.drew :=
  ⟨R.ext.trans (WExt.drew _ _), R.blk, R.inj, fun o => (R.obs o).mono (fun x u hv => hv.mono (fun o d hd => ⟨d, hd, .refl d⟩) (Nat.le_refl _) (fun b _ hb => ⟨hb, rfl⟩) (fun b c e fr h => ⟨c, fr, h, rfl⟩)) (fun _ _ _ _ => rfl), R.new, R.dle⟩

theorem arg2 {vs : Array Value} {x y : V} (h : vs.size = [x, y].length) : ∃ u v, vs = #[u, v] := by
  obtain ⟨l⟩ := vs
  match l, h with
  | [a, b], _ => exact ⟨a, b, rfl⟩

/-- One cell of a variable written: the world that the model's own store leaves. -/
theorem HRel.cell {E : Env} {m : Locs} {h : List Ob} {w : World} (R : HRel E m h w) {o fl blk : Nat} {t : TypeId} {cs0 : List V} (ho : h.getD o .unborn = .var t cs0) (hm : m o = some (blk, 0)) (hfl : fl < cs0.length) {x : V} {u : Value}
    (h1 : u.oneCell' = true) (hv : VRel (dirOf m h) (okc E m h) w x u) :
    HRel E m (setOb h o (.var t (over cs0 fl [x]))) (w.setCell ⟨blk, fl, none⟩ u) ∧
      (∀ x' u', VRel (dirOf m h) (okc E m h) w x' u' → VRel (dirOf m (setOb h o (.var t (over cs0 fl [x])))) (okc E m (setOb h o (.var t (over cs0 fl [x])))) (w.setCell ⟨blk, fl, none⟩ u) x' u') := by
  obtain ⟨w2, hr, H, hmono⟩ := R.writeVar (P := prog) ho hm (cs := [x]) (fl := fl) (by simp; omega) (us := [u]) rfl (by simpa using h1) (fun j y v hy hu => by
    cases j with
    | zero => simp at hy hu; subst hy; subst hu; exact hv
    | succ j => simp at hy)
  obtain ⟨blk', hm', hcs⟩ := var_cells R ho
  rw [hm] at hm'
  cases hm'
  obtain ⟨u0, hc0, _, _⟩ := hcs fl cs0[fl] (List.getElem?_eq_getElem hfl)
  have hob := R.obs o
  rw [ho, hm] at hob
  obtain ⟨_, c, hb, hc, _⟩ := hob
  cases hb
  rw [Nat.zero_add] at hc0 hr
  have hf0 : w.frozen? ⟨blk, fl, none⟩ = false := Lib.frozen_of_heap hc fl
  have hr2 := run_storeCells_cells (P := prog) blk fl [u] 0 w (fun j hj => by
    have : j = 0 := by simpa using hj
    subst this; simp [hc0]) (fun j hj => by
    have : j = 0 := by simpa using hj
    subst this; simpa using hf0) (by simpa using h1)
  rw [hr] at hr2
  have hw2 : w2 = w.setCell ⟨blk, fl, none⟩ u := by
    have := (Result.ok.inj hr2).2
    simpa [World.setCells] using this
  subst hw2
  exact ⟨H, hmono⟩

theorem setCell_alloc (w : World) (a : Addr) (v : Value) (o : Obj) (h : a.block < w.heap.size) : (w.setCell a v).alloc o = (w.alloc o).setCell a v := by
  unfold World.setCell World.alloc
  simp only [World.mk.injEq, and_true, true_and]
  apply Array.ext
  · simp
  · intro i h1 h2
    simp [Array.getElem_push, Array.getElem_modify]
    split
    · rfl
    · split
      · omega
      · rfl

theorem walk55 (k : Nat) (h1 : 1 ≤ k) (hk : k ≤ 281474976710656) : QC prog 55 [.ptr 0 0 0 0, .i .i64 k] [.var 63 [.c (.pointer none), .c (.slice none 0 0)]] (.tup []) [.var 63 [.ptr 0 0 0 0, .sl 1 0 0 0], .row 5 0 []] := by
  refine ⟨FOK_of func55 rfl (by kernel_rfl), fun w vs m ok _ R hsz hv => ?_⟩
  obtain ⟨u, u2, rfl⟩ := arg2 hsz
  obtain ⟨blk, u0, u1, hm, hc, hv0, hv1⟩ := var2 R rfl
  have hself := hv 0 _ u rfl rfl
  obtain rfl := self_ptr rfl hm hself
  obtain rfl := hv0.c_inv
  obtain rfl := hv1.c_inv
  obtain rfl := (hv 1 _ u2 rfl rfl).i_inv
  refine (Grow_at blk k w hc h1 hk).mono ?_
  rintro e w' ⟨rfl, cs, h2, h3, rfl⟩
  obtain ⟨R1, M1⟩ := HRel.cell R (o := 0) (fl := 0) rfl hm (by simp) (x := .ptr 0 0 0 0) (u := .pointer (some ⟨blk, 0, none⟩)) rfl hself
  have hlt : blk < w.heap.size := (R.blk 0 blk 0 trivial hm).2
  have hs1 : (w.setCell ⟨blk, 0, none⟩ (.pointer (some ⟨blk, 0, none⟩))).heap.size = w.heap.size := by simp [World.setCell]
  rw [setCell_alloc _ _ _ _ (by rw [hs1]; exact hlt)]
  generalize hw1 : w.setCell ⟨blk, 0, none⟩ (.pointer (some ⟨blk, 0, none⟩)) = w1 at *
  have R1' : HRel _ m [.var 63 [.ptr 0 0 0 0, .c (.slice none 0 0)]] w1 := R1
  have hnew : (w1.alloc (.cells cs 5)).heap[w.heap.size]? = some (.cells cs 5) := by rw [← hs1]; exact heap_alloc_new w1 _
  obtain ⟨R2, M2⟩ := R1'.set1 (o := 1) (ob' := .row 5 0 []) (loc' := some (w.heap.size, 0)) (h' := [.var 63 [.ptr 0 0 0 0, .c (.slice none 0 0)], .row 5 0 []]) (w' := w1.alloc (.cells cs 5))
    (fun x => by rcases x with _ | _ | x <;> rfl) (WExt.alloc _ _ _) (fun d hd => by cases hd)
    (fun b off hl _ => .inr (by cases hl; exact ⟨by omega, by simp [hs1]⟩))
    (fun D' ok' _ _ => ⟨by simp, by simp [most], rfl, cs, hnew, by simp, fun i j x hx => by simp at hx⟩)
  have hm2 : (fun x => if x = 1 then some (w.heap.size, 0) else m x) 0 = some (blk, 0) := by simpa using hm
  obtain ⟨R3, _⟩ := HRel.cell R2 (o := 0) (fl := 1) rfl hm2 (by simp) (x := .sl 1 0 0 0) (u := .slice (some ⟨w.heap.size, 0, none⟩) 0 cs.size) rfl (by
    have := VRel.sl (D := dirOf (fun x => if x = 1 then some (w.heap.size, 0) else m x) [.var 63 [.ptr 0 0 0 0, .c (.slice none 0 0)], .row 5 0 []]) (w := w1.alloc (.cells cs 5))
      (ok := okc ⟨w, ownOf m [.var 63 [.c (.pointer none), .c (.slice none 0 0)]], ok, dirOf m [.var 63 [.c (.pointer none), .c (.slice none 0 0)]]⟩ (fun x => if x = 1 then some (w.heap.size, 0) else m x) [.var 63 [.ptr 0 0 0 0, .c (.slice none 0 0)], .row 5 0 []])
      1 0 0 0 1 w.heap.size 0 cs.size cs 5 (0, 0) rfl (Nat.zero_le _) hnew (by simp)
    simpa using this)
  exact ⟨_, _, rfl, HRel.drew1 (HRel.drew1 (HRel.drew1 (HRel.drew1 R3))), .tup [] [] rfl (fun j x u hx _ => by simp at hx)⟩
end Go.Proofs.Tryd
end
section
namespace Go.Proofs
open Go.Shelf
def Tryd.laysM171_ren : Go.Shelf.Ren := ⟨fun | 171 => 44 | 243 => 54 | 246 => 57 | 283 => 59 | 284 => 60 | 285 => 61 | 286 => 62 | 129 => 65 | 317 => 64 | 318 => 66 | 319 => 67 | 320 => 68 | 337 => 69 | 338 => 70 | n => n, fun | 3 => 3 | 9 => 9 | 2 => 2 | 4 => 4 | 171 => 93 | 0 => 0 | 53 => 94 | 37 => 61 | 5 => 5 | 173 => 97 | 212 => 101 | 51 => 83 | 20 => 20 | 213 => 102 | 46 => 103 | 232 => 106 | 233 => 107 | n => n, fun | 17 => 0 | 18 => 2 | 19 => 3 | n => n⟩
theorem Tryd.laysM171 : Go.Proofs.LaysM.n171 Tryd.prog Tryd.laysM171_ren := {
  mixed := by kernel_rfl
  f129 := Tryd.func65.trans (congrArg some (by kernel_rfl))
  f171 := Tryd.func44.trans (congrArg some (by kernel_rfl))
  f243 := Tryd.func54.trans (congrArg some (by kernel_rfl))
  f246 := Tryd.func57.trans (congrArg some (by kernel_rfl))
  f283 := Tryd.func59.trans (congrArg some (by kernel_rfl))
  f284 := Tryd.func60.trans (congrArg some (by kernel_rfl))
  f285 := Tryd.func61.trans (congrArg some (by kernel_rfl))
  f286 := Tryd.func62.trans (congrArg some (by kernel_rfl))
  f317 := Tryd.func64.trans (congrArg some (by kernel_rfl))
  f318 := Tryd.func66.trans (congrArg some (by kernel_rfl))
  f319 := Tryd.func67.trans (congrArg some (by kernel_rfl))
  f320 := Tryd.func68.trans (congrArg some (by kernel_rfl))
  f337 := Tryd.func69.trans (congrArg some (by kernel_rfl))
  f338 := Tryd.func70.trans (congrArg some (by kernel_rfl))
  t0 := Tryd.underlying0
  a0 := Tryd.isAgg0
  z0 := Tryd.sizeOf0
  v0 := Tryd.zeroValue0
  t2 := Tryd.underlying2
  a2 := Tryd.isAgg2
  z2 := Tryd.sizeOf2
  v2 := Tryd.zeroValue2
  t3 := Tryd.underlying3
  a3 := Tryd.isAgg3
  z3 := Tryd.sizeOf3
  v3 := Tryd.zeroValue3
  t4 := Tryd.underlying4
  a4 := Tryd.isAgg4
  z4 := Tryd.sizeOf4
  v4 := Tryd.zeroValue4
  t5 := Tryd.underlying5
  a5 := Tryd.isAgg5
  z5 := Tryd.sizeOf5
  v5 := Tryd.zeroValue5
  t9 := Tryd.underlying9
  a9 := Tryd.isAgg9
  z9 := Tryd.sizeOf9
  v9 := Tryd.zeroValue9
  t20 := Tryd.underlying20
  a20 := Tryd.isAgg20
  z20 := Tryd.sizeOf20
  v20 := Tryd.zeroValue20
  t37 := Tryd.underlying61
  a37 := Tryd.isAgg61
  z37 := Tryd.sizeOf61
  v37 := Tryd.zeroValue61
  t46 := Tryd.underlying103
  a46 := Tryd.isAgg103
  z46 := Tryd.sizeOf103
  v46 := Tryd.zeroValue103
  t51 := Tryd.underlying83
  a51 := Tryd.isAgg83
  z51 := Tryd.sizeOf83
  v51 := Tryd.zeroValue83
  t53 := Tryd.underlying94
  a53 := Tryd.isAgg94
  z53 := Tryd.sizeOf94
  v53 := Tryd.zeroValue94
  t171 := Tryd.underlying93
  a171 := Tryd.isAgg93
  z171 := Tryd.sizeOf93
  v171 := Tryd.zeroValue93
  t173 := Tryd.underlying97
  a173 := Tryd.isAgg97
  z173 := Tryd.sizeOf97
  v173 := Tryd.zeroValue97
  t212 := Tryd.underlying101
  a212 := Tryd.isAgg101
  z212 := Tryd.sizeOf101
  v212 := Tryd.zeroValue101
  t213 := Tryd.underlying102
  a213 := Tryd.isAgg102
  z213 := Tryd.sizeOf102
  t232 := Tryd.underlying106
  a232 := Tryd.isAgg106
  z232 := Tryd.sizeOf106
  v232 := Tryd.zeroValue106
  t233 := Tryd.underlying107
  a233 := Tryd.isAgg107
  z233 := Tryd.sizeOf107
  v233 := Tryd.zeroValue107
  g17 := by kernel_rfl
  g18 := by kernel_rfl
  g19 := by kernel_rfl
  i0 := by kernel_rfl
  i2 := by kernel_rfl
  i3 := by kernel_rfl
  i4 := by kernel_rfl
  i5 := by kernel_rfl
  i9 := by kernel_rfl
  i20 := by kernel_rfl
  i37 := by kernel_rfl
  i46 := by kernel_rfl
  i51 := by kernel_rfl
  i53 := by kernel_rfl
  i171 := by kernel_rfl
  i173 := by kernel_rfl
  i212 := by kernel_rfl
  i232 := by kernel_rfl
  i233 := by kernel_rfl
  m17 := by kernel_rfl
  m18 := by kernel_rfl
  m19 := by kernel_rfl }
open Go.RowKit Go.Sort Go.Lib in
/-- strconv.Itoa: "Itoa is equivalent to FormatInt(int64(i), 10).": i's DECIMAL NUMERAL ('Lib.itoa': a '-' where i is negative, then the digits), FOR EVERY int. The world behind the call: the world before it, new blocks behind the heap (the library's 'var a [24]byte'), draws. (LAID: no walk: one application.) -/
theorem Tryd.strconv_Itoa (n : Int) (h0 : -9223372036854775808 ≤ n) (h1 : n ≤ 9223372036854775807) (w : World) (htab : Lib.TabIs Tryd.prog w "internal/strconv.uint64pow10" .u64 Lib.pow10Tab) :
    Calls Tryd.prog 44 #[.int .i64 n] w fun e w' => e = .returned (.string ⟨(Lib.itoa n).toArray⟩) ∧ ∃ k os, w' = grow (w.drewN k) os := Any.strconv_Itoa Tryd.laysM171 n h0 h1 w htab
end Go.Proofs
end
section
namespace Go.Proofs.Tryd
open Go Go.AM Go.Lib

theorem WExt.grown (S : Nat → Prop) (w : World) (k : Nat) (os : Array Obj) : WExt S w (Go.Sort.grow (w.drewN k) os) := by
  have hold : ∀ b, b < w.heap.size → (Go.Sort.grow (w.drewN k) os).heap[b]? = w.heap[b]? := fun b hb => by
    simp [Go.Sort.grow, World.drewN, Array.getElem?_append, hb]
  exact ⟨rfl, rfl, rfl, by simp [Go.Sort.grow, World.drewN], fun b hb _ => hold b hb, fun b c e fr h => ⟨c, fr, by rw [hold b (Array.getElem?_eq_some_iff.1 h).1]; exact h, rfl⟩⟩

def inI64 (z : Int) : Prop := -9223372036854775808 ≤ z ∧ z ≤ 9223372036854775807

theorem walkIt (z : Int) (hz : inI64 z) : QC prog 44 [.i .i64 z] [] (.s (Lib.itoa z)) [] := by
  refine ⟨FOK_of func44 rfl (by kernel_rfl), fun w vs m ok hG R hsz hv => ?_⟩
  obtain ⟨u, rfl⟩ := arg1 hsz
  obtain rfl := (hv 0 _ u rfl rfl).i_inv
  refine (Tryd.strconv_Itoa z hz.1 hz.2 w (hG _ (List.mem_singleton.2 rfl)).1).mono ?_
  rintro e w' ⟨rfl, k, os, rfl⟩
  exact ⟨_, m, rfl, HRel.allGone R rfl (by simp) (WExt.grown _ _ _ _), .pure (.s ⟨(Lib.itoa z).toArray⟩)⟩
end Go.Proofs.Tryd
end
