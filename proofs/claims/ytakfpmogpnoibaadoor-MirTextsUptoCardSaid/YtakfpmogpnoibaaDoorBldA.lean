/- Contracts of a string builder's methods; the document's example, run. -/
import Derived.Test.YtakfpmogpnoibaaDoorChecked
import Derived.Eval
import Derived.Lib.Builder
import Derived.Lib.UnsafeStr
import Derived.Lib.Walk
import Derived.WalkKit
import Derived.Laws.Externs
import Derived.Laws.IdiomCopy
import Derived.Shelf.RegionOpenPlain
import Derived.Lib.Strings
import Derived.Lib.Slices
import Derived.Lib.AppendStr
import Derived.Lib.MakeNoZero
import Derived.Test.YtakfpmogpnoibaaDoorMachD
import Derived.Test.YtakfpmogpnoibaaDoorMachE
import Derived.Test.YtakfpmogpnoibaaDoorRefA
set_option linter.unusedVariables false
set_option linter.unusedSimpArgs false
set_option linter.constructorNameAsVariable false
section
namespace Go.Proofs.Tryd
open Go Go.AM

theorem b43_size : (prog.info? 98).map (·.size) = some 2 := by kernel_rfl
theorem b43_lies : liesAt prog prog.depth 98 (2 / prog.cellsOf 98) 0 98 1 = true := by kernel_rfl

set_option maxHeartbeats 1000000 in
set_option maxRecDepth 100000 in
theorem check_used (b : Nat) (w : World) (h0 : w.cell? ⟨b, 0, none⟩ = some (.pointer (some ⟨b, 0, none⟩))) :
    Calls prog 66 #[.pointer (some ⟨b, 0, none⟩)] w fun e w' => e = .returned (.tuple #[]) ∧ w' = w := by
  obtain ⟨j, hj, _⟩ := Option.map_eq_some_iff.1 b43_size
  go_enter func66, ntmps66
  go_wp2
  rw [Lib.run_neq_ptr_same w _ underlying95 hj]
  go_wp2
  go_end0
  exact ⟨rfl, rfl⟩

set_option maxHeartbeats 1000000 in
set_option maxRecDepth 100000 in
theorem check_fresh (b : Nat) (w : World) (h0 : w.cell? ⟨b, 0, none⟩ = some (.pointer none)) (hsh : w.shape? b = some (98, 2)) (hfz : w.frozen? ⟨b, 0, none⟩ = false) :
    Calls prog 66 #[.pointer (some ⟨b, 0, none⟩)] w fun e w' => e = .returned (.tuple #[]) ∧ w' = w.setCell ⟨b, 0, none⟩ (.pointer (some ⟨b, 0, none⟩)) := by
  obtain ⟨j, hj, hjs⟩ := Option.map_eq_some_iff.1 b43_size
  go_enter func66, ntmps66
  go_wp2
  rw [Lib.run_to_unsafe w ⟨b, 0, none⟩ underlying95 underlying154 hj (by rw [hjs]; decide) hsh (Nat.zero_lt_succ 1)]
  simp only [Result.andThen]
  rw [Oper.upon_value]
  go_wp2
  rw [run_callFunc_extern func85 (by kernel_rfl) (by kernel_rfl) (by kernel_rfl) (e := Extern.AbiNoEscape.same) (by kernel_rfl)]
  rw [Lib.run_noEscape]
  simp only [Result.andThen]
  rw [Oper.upon_value]
  go_wp2
  rw [Lib.run_from_unsafe w ⟨b, 0, none⟩ underlying154 underlying95 hj hsh b43_lies]
  simp only [Result.andThen]
  rw [Oper.upon_value]
  go_wp2
  go_end0
  exact ⟨rfl, rfl⟩
end Go.Proofs.Tryd
end
section
namespace Go.Proofs.Tryd
open Go Go.AM Go.Lib

theorem b35_cells : prog.cellsOf 5 = 1 := by kernel_rfl

set_option maxHeartbeats 2000000 in
set_option maxRecDepth 100000 in
theorem string_at (b g cap : Nat) (p : Value) (c : Array Value) (l : List UInt8) (w : World) (hbk : w.heap[b]? = some (.cells #[p, .slice (some ⟨g, 0, none⟩) l.length cap] 98 (0, 0))) (h0 : l ≠ [])
    (hg : w.heap[g]? = some (.cells c 5 (0, 0))) (hn : l.length ≤ c.size) (hcap : l.length ≤ cap) (h63 : l.length ≤ 9223372036854775807) (hcs : ∀ (j : Nat) (x : UInt8), l[j]? = some x → c[j]? = some (Value.int .u8 x.toNat)) :
    Calls prog 37 #[.pointer (some ⟨b, 0, none⟩)] w fun e w' => e = .returned (.string ⟨l.toArray⟩) ∧ w' = w.drew.freeze ⟨g, 0, none⟩ l.length := by
  have hl0 : l.length ≠ 0 := by simpa using h0
  have c1 : w.drew.cell? ⟨b, 1, none⟩ = some (.slice (some ⟨g, 0, none⟩) l.length cap) := by
    have : w.drew.heap[b]? = some (.cells #[p, .slice (some ⟨g, 0, none⟩) l.length cap] 98 (0, 0)) := hbk
    rw [Lib.cell_of_heap this]; rfl
  have hSD : (Builtin.unsafeSliceData_ #[96] 147 #[.slice (some ⟨g, 0, none⟩) l.length cap]).run prog w.drew = .ok (.pointer (some ⟨g, 0, none⟩)) w.drew :=
    Lib.run_unsafeSliceData_row _ _ _ _ _ _ (by omega)
  have hg' : w.drew.heap[g]? = some (.cells c 5 (0, 0)) := hg
  have hUS : (Builtin.unsafeString_ #[147, 3] 9 #[.pointer (some ⟨g, 0, none⟩), .int .i64 l.length]).run prog w.drew = .ok (.string ⟨l.toArray⟩) (w.drew.freeze ⟨g, 0, none⟩ l.length) := by
    refine Lib.run_unsafeString_row w.drew 147 3 9 5 underlying147 b35_cells g c.size (by simp [World.shape?, hg']) l h0 hn h63 ?_
    intro j x hx
    rw [show (⟨g, 0, none⟩ : Addr).add j = ⟨g, 0 + j, none⟩ by unfold Addr.add; split <;> simp_all]
    rw [Lib.cell_of_heap hg', Nat.zero_add]
    exact hcs j x hx
  have mixed := Go.Checked.mixed Go.Proofs.Tryd.checked
  go_enter func37, ntmps37
  go_wp2
  go_region_o
  all_goals (go_wp2; go_ret; exact ⟨rfl, rfl⟩)
end Go.Proofs.Tryd
end
section
namespace Go.Proofs.Tryd
open Go Go.AM Go.Lib

theorem FOK_of {P : Program} {f : FuncId} {fn : Func} {c : Code} (hf : P.funcs[f]? = some fn) (hb : fn.body = some c) (hname : (fn.name == "runtime.NumGoroutine") = false) : FOK P f := by
  intro vs w
  have hne : ¬ (fn.name = "runtime.NumGoroutine") := by simpa using hname
  simp [callFunc, hf, hb, hne]

set_option maxHeartbeats 2000000 in
set_option maxRecDepth 100000 in
theorem string_nil (b : Nat) (p : Value) (w : World) (hbk : w.heap[b]? = some (.cells #[p, .slice none 0 0] 98 (0, 0))) :
    Calls prog 37 #[.pointer (some ⟨b, 0, none⟩)] w fun e w' => e = .returned (.string ⟨#[]⟩) ∧ w' = w.drew := by
  have hUS : ∀ W : World, (Builtin.unsafeString_ #[147, 3] 9 #[.pointer none, .int .i64 0]).run prog W = .ok (.string .empty) W := fun W => Lib.run_unsafeString_none W _ _ _ none
  have c1 : w.drew.cell? ⟨b, 1, none⟩ = some (.slice none 0 0) := by
    have : w.drew.heap[b]? = some (.cells #[p, .slice none 0 0] 98 (0, 0)) := hbk
    rw [Lib.cell_of_heap this]; rfl
  have hSD : (Builtin.unsafeSliceData_ #[96] 147 #[.slice none 0 0]).run prog w.drew = .ok (.pointer none) w.drew := rfl
  have mixed := Go.Checked.mixed Go.Proofs.Tryd.checked
  go_enter func37, ntmps37
  go_wp2
  go_region_o
  all_goals (go_wp2; go_ret; exact ⟨rfl, rfl⟩)

/-- What is known of a builder that is handed in. -/
theorem var2 {E : Env} {m : Locs} {objs : List Ob} {w : World} {p v : V} (R : HRel E m objs w) (ho : objs.getD 0 .unborn = .var 98 [p, v]) :
    ∃ blk u0 u1, m 0 = some (blk, 0) ∧ w.heap[blk]? = some (.cells #[u0, u1] 98 (0, 0)) ∧ VRel (dirOf m objs) (okc E m objs) w p u0 ∧ VRel (dirOf m objs) (okc E m objs) w v u1 := by
  have hob := R.obs 0
  rw [ho] at hob
  obtain ⟨blk, c, hm, hc, hsz, _, hcs⟩ := hob
  obtain ⟨u0, h1, _, h2⟩ := hcs 0 p rfl
  obtain ⟨u1, h3, _, h4⟩ := hcs 1 v rfl
  refine ⟨blk, u0, u1, hm, ?_, h2, h4⟩
  rw [hc]
  congr 2
  apply Array.ext
  · simpa using hsz
  · intro i hi _
    have hi2 : i < 2 := by rw [hsz] at hi; simpa using hi
    rcases i with _ | _ | i
    · rw [Array.getElem?_eq_getElem (by omega)] at h1; simpa using h1
    · rw [Array.getElem?_eq_getElem (by omega)] at h3; simpa using h3
    · omega

theorem self_ptr {E : Env} {m : Locs} {objs : List Ob} {w : World} {p v : V} {blk fl : Nat} {u : Value} (ho : objs.getD 0 .unborn = .var 98 [p, v]) (hm : m 0 = some (blk, 0)) (hv : VRel (dirOf m objs) (okc E m objs) w (.ptr 0 0 0 fl) u) : u = .pointer (some ⟨blk, fl, none⟩) := by
  have := var_ptr ho hm hv
  rwa [Nat.zero_add] at this

theorem arg1 {vs : Array Value} {x : V} (h : vs.size = [x].length) : ∃ u, vs = #[u] := by
  obtain ⟨l⟩ := vs
  cases l with
  | nil => simp at h
  | cons a l =>
    cases l with
    | nil => exact ⟨a, rfl⟩
    | cons => simp at h

theorem walk43u (v : V) (rest : List Ob) : QC prog 66 [.ptr 0 0 0 0] (.var 98 [.ptr 0 0 0 0, v] :: rest) (.tup []) (.var 98 [.ptr 0 0 0 0, v] :: rest) := by
  refine ⟨FOK_of func66 rfl (by kernel_rfl), fun w vs m ok _ R hsz hv => ?_⟩
  obtain ⟨u, rfl⟩ := arg1 hsz
  obtain ⟨blk, u0, u1, hm, hc, h0, h1⟩ := var2 R rfl
  obtain rfl := self_ptr rfl hm (hv 0 _ u rfl rfl)
  obtain rfl := self_ptr rfl hm h0
  refine (check_used blk w (by rw [Lib.cell_of_heap hc]; rfl)).mono ?_
  rintro e w' ⟨rfl, rfl⟩
  exact ⟨_, m, rfl, R, .tup [] [] rfl (fun j x u hx _ => by simp at hx)⟩

theorem walk43n (v : V) (rest : List Ob) : QC prog 66 [.ptr 0 0 0 0] (.var 98 [.c (.pointer none), v] :: rest) (.tup []) (.var 98 [.ptr 0 0 0 0, v] :: rest) := by
  refine ⟨FOK_of func66 rfl (by kernel_rfl), fun w vs m ok _ R hsz hv => ?_⟩
  obtain ⟨u, rfl⟩ := arg1 hsz
  obtain ⟨blk, u0, u1, hm, hc, h0, h1⟩ := var2 R rfl
  have hself := hv 0 _ u rfl rfl
  obtain rfl := self_ptr rfl hm hself
  obtain rfl := h0.c_inv
  have hc0 : w.cell? ⟨blk, 0, none⟩ = some (.pointer none) := by rw [Lib.cell_of_heap hc]; rfl
  have hf0 : w.frozen? ⟨blk, 0, none⟩ = false := by simp [World.frozen?, hc]
  refine (check_fresh blk w hc0 (by simp [World.shape?, hc]) hf0).mono ?_
  rintro e w' ⟨rfl, rfl⟩
  obtain ⟨w2, hr, H, hmono⟩ := R.writeVar (P := prog) (o := 0) (fl := 0) rfl hm (cs := [.ptr 0 0 0 0]) (by simp) (us := [.pointer (some ⟨blk, 0, none⟩)]) rfl (by simp [Value.oneCell']) (fun j x u hx hu => by
    cases j with
    | zero => simp at hx hu; subst hx; subst hu; exact hself
    | succ j => simp at hx)
  have hr2 := run_storeCells_cells (P := prog) blk 0 [.pointer (some ⟨blk, 0, none⟩)] 0 w (fun j hj => by
    have : j = 0 := by simpa using hj
    subst this; simp [hc0]) (fun j hj => by
    have : j = 0 := by simpa using hj
    subst this; simpa using hf0) (by simp [Value.oneCell'])
  rw [Nat.zero_add] at hr
  rw [hr] at hr2
  have hw2 : w2 = w.setCell ⟨blk, 0, none⟩ (.pointer (some ⟨blk, 0, none⟩)) := by
    have := (Result.ok.inj hr2).2
    simpa [World.setCells] using this
  subst hw2
  exact ⟨_, m, rfl, H, .tup [] [] rfl (fun j x u hx _ => by simp at hx)⟩
end Go.Proofs.Tryd
end
section
namespace Go.Proofs.Tryd
open Go Go.AM Go.Lib

theorem WExt.freeze {S : Nat → Prop} (w : World) (p : Addr) (n : Nat) (hS : S p.block) : WExt S w (w.freeze p n) := by
  unfold World.freeze
  split
  · exact WExt.refl S w
  · refine ⟨rfl, rfl, rfl, by simp, fun b hb hn => ?_, fun b c e fr h => ?_⟩
    · have hne : p.block ≠ b := fun e => hn (e ▸ hS)
      simp [Array.getElem?_modify, hne]
    · by_cases hpb : p.block = b
      · subst hpb
        obtain ⟨lo, hi⟩ := fr
        refine ⟨c, if (lo == hi) = true then (p.off, p.off + n) else (min lo p.off, max hi (p.off + n)), ?_, rfl⟩
        simp only [Array.getElem?_modify, if_true, h, Option.map_some]
      · exact ⟨c, fr, by simp [Array.getElem?_modify, hpb, h], rfl⟩

/-- All that was handed in is given up. -/
theorem HRel.allGone {E : Env} {m : Locs} {objs objs' : List Ob} {w w' : World} (R : HRel E m objs w) (hl : objs'.length = objs.length) (hg : ∀ ob ∈ objs', ob = .gone) (hx : WExt E.own w w') : HRel E m objs' w' := by
  have hdead : ∀ o, ¬ live (objs'.getD o .unborn) := by
    intro o
    rw [List.getD_eq_getElem?_getD]
    cases ho : objs'[o]? with
    | none => simp [live]
    | some ob => rw [hg ob (List.mem_of_getElem? ho)]; simp [live]
  refine ⟨R.ext.trans' hx (fun x _ h => h), fun o blk off h _ => (hdead o h).elim, fun o o' blk off off' h _ => (hdead o h).elim, fun o => ?_, fun o blk off h _ => (hdead o h).elim, fun o d hd => ?_⟩
  · rw [List.getD_eq_getElem?_getD]
    cases ho : objs'[o]? with
    | none => trivial
    | some ob => rw [hg ob (List.mem_of_getElem? ho)]; trivial
  · obtain ⟨d', h1, h2⟩ := R.dle o d hd
    rw [dirOf_eq] at h1
    have hlt : o < objs'.length := by
      rw [hl]
      rcases Nat.lt_or_ge o objs.length with h | h
      · exact h
      · have : objs.getD o .unborn = .unborn := by simp [List.getD, List.getElem?_eq_none h]
        rw [this] at h1; cases h1
    refine ⟨.gone, ?_, .gone _⟩
    rw [dirOf_eq, List.getD_eq_getElem?_getD, List.getElem?_eq_getElem hlt, Option.getD_some, hg _ (List.getElem_mem hlt)]
    rfl

theorem sl_at {D : Dir} {ok : Nat → Prop} {w : World} {o ep off n sz : Nat} {loc : Option (Nat × Nat)} {u : Value} (h : VRel D ok w (.sl o ep off n) u) (hn : n ≠ 0) (hD : D o = some (.arr ep sz loc)) :
    ∃ g o0 cap, loc = some (g, o0) ∧ u = .slice (some ⟨g, o0 + off * sz, none⟩) n cap ∧ n ≤ cap := by
  cases h with
  | pure h => cases h
  | sl0 => exact absurd rfl hn
  | slS _ _ _ _ _ d _ hD2 hst _ =>
    rw [hD] at hD2
    obtain rfl := Option.some.inj hD2
    exact (stale_arr hst).elim
  | sl _ _ _ _ sz2 g o0 cap cl e fr hD2 hcap hb hf =>
    rw [hD] at hD2
    simp only [Option.some.injEq, DE.arr.injEq, true_and] at hD2
    obtain ⟨rfl, rfl⟩ := hD2
    exact ⟨g, o0, cap, rfl, rfl, hcap⟩

def byteV (b : UInt8) : List V := [.i .u8 (b.toNat : Int)]

theorem walk35n (p : V) : QC prog 37 [.ptr 0 0 0 0] [.var 98 [p, .c (.slice none 0 0)]] (.s []) [.gone] := by
  refine ⟨FOK_of func37 rfl (by kernel_rfl), fun w vs m ok _ R hsz hv => ?_⟩
  obtain ⟨u, rfl⟩ := arg1 hsz
  obtain ⟨blk, u0, u1, hm, hc, h0, h1⟩ := var2 R rfl
  obtain rfl := self_ptr rfl hm (hv 0 _ u rfl rfl)
  obtain rfl := h1.c_inv
  refine (string_nil blk u0 w hc).mono ?_
  rintro e w' ⟨rfl, rfl⟩
  exact ⟨_, m, rfl, HRel.allGone R rfl (by simp) (WExt.drew _ _), .str []⟩

theorem walk35r (ep : Nat) (l : List UInt8) (hl : l ≠ []) (p : V) : QC prog 37 [.ptr 0 0 0 0] [.var 98 [p, .sl 1 ep 0 l.length], .row 5 ep (l.map byteV)] (.s l) [.gone, .gone] := by
  refine ⟨FOK_of func37 rfl (by kernel_rfl), fun w vs m ok _ R hsz hv => ?_⟩
  obtain ⟨u, rfl⟩ := arg1 hsz
  obtain ⟨blk, u0, u1, hm, hc, h0, h1⟩ := var2 R rfl
  obtain rfl := self_ptr rfl hm (hv 0 _ u rfl rfl)
  have hlen : l.length ≠ 0 := by simpa using hl
  have hob : OKo _ _ w (m 1) (.row 5 ep (l.map byteV)) := R.obs 1
  have hD1 : dirOf m [Ob.var 98 [p, V.sl 1 ep 0 l.length], Ob.row 5 ep (l.map byteV)] 1 = some (.arr ep 1 (m 1)) := rfl
  obtain ⟨g, o0, cap, hm1, rfl, hcap⟩ := sl_at h1 hlen hD1
  · skip
    rw [hm1] at hob
    obtain ⟨_, hmost, rfl, c, hcg, hsz2, hcs⟩ := hob
    rw [List.length_map] at hmost hsz2
    have hcs' : ∀ (j : Nat) (x : UInt8), l[j]? = some x → c[j]? = some (Value.int .u8 x.toNat) := by
      intro j x hx
      obtain ⟨u, h2, _, h3⟩ := hcs j 0 (.i .u8 (x.toNat : Int)) (by rw [List.getElem?_map, hx]; rfl)
      rw [Nat.zero_add, Nat.mul_one, Nat.add_zero] at h2
      rw [h2, h3.i_inv]
    have hc' : w.heap[blk]? = some (.cells #[u0, .slice (some ⟨g, 0, none⟩) l.length cap] 98 (0, 0)) := by simpa using hc
    refine (string_at blk g cap u0 c l w hc' hl hcg (by omega) hcap (by unfold most at hmost; exact hmost) hcs').mono ?_
    rintro e w' ⟨rfl, rfl⟩
    refine ⟨_, m, rfl, HRel.allGone R rfl (by simp) ((WExt.drew _ w).trans (WExt.freeze _ _ _ ?_)), .str l⟩
    exact ⟨1, 0, trivial, hm1⟩
theorem ren_var {μ : Nat → Option Nat} {t : TypeId} {cs : List V} : (Ob.var t cs).ren μ = .var t (cs.map (ren0 μ)) := rfl
theorem ren_row {μ : Nat → Option Nat} {e : TypeId} {ep : Nat} {es : List (List V)} : (Ob.row e ep es).ren μ = .row e ep (es.map fun x => x.map (ren0 μ)) := rfl
end Go.Proofs.Tryd
end
section
namespace Go.Proofs.Tryd
open Go Go.AM Go.Lib

theorem b55_size : (prog.info? 5).map (·.size) = some 1 := by kernel_rfl

set_option maxHeartbeats 2000000 in
set_option maxRecDepth 1000000 in
theorem grow_at (b n : Nat) (p : Value) (w : World) (hbk : w.heap[b]? = some (.cells #[p, .slice none 0 0] 98 (0, 0))) (hn : n ≤ 281474976710656) :
    Calls prog 95 #[.pointer (some ⟨b, 0, none⟩), .int .i64 n] w fun e w' => e = .returned (.tuple #[]) ∧ ∃ cs : Array Value, n ≤ cs.size ∧ cs.size ≤ maxLen ∧ w' = ((w.setCell ⟨b, 1, none⟩ (.slice (some ⟨w.heap.size, 0, none⟩) 0 cs.size)).alloc (.cells cs 5)).drew.drew.drew := by
  obtain ⟨cs, hrun, hle, hmax⟩ := Lib.run_makeNoZero (P := prog) w.drew #[3] 96 5 underlying96 n hn
  have hw : IntKind.i64.wrap (IntKind.i64.wrap 0 + (n : Int)) = n := by
    rw [IntKind.wrap_i64, IntKind.wrap_i64]
    omega
  have hcall : (callFunc 97 #[.int .i64 (IntKind.i64.wrap (IntKind.i64.wrap 0 + (n : Int)))]).run prog w.drew = .ok (.value (.slice (some ⟨w.drew.heap.size, 0, none⟩) n cs.size)) (w.drew.drew.drew.alloc (.cells cs 5)) := by
    rw [hw, run_callFunc_extern func97 (by kernel_rfl) (by kernel_rfl) (by kernel_rfl) (e := Extern.BytealgMakeNoZero.makeNoZero #[3] #[96]) (by kernel_rfl), hrun]
    rfl
  have hlt : b < w.heap.size := by
    rcases Nat.lt_or_ge b w.heap.size with h' | h'
    · exact h'
    · simp [Array.getElem?_eq_none h'] at hbk
  have c1 : w.drew.cell? ⟨b, 1, none⟩ = some (.slice none 0 0) := by
    have : w.drew.heap[b]? = _ := hbk
    rw [Lib.cell_of_heap this]; rfl
  have c2 : (w.alloc (.cells cs 5)).cell? ⟨b, 1, none⟩ = some (.slice none 0 0) := by
    have : (w.alloc (.cells cs 5)).heap[b]? = _ := (Lib.alloc_old w _ b hlt).trans hbk
    rw [Lib.cell_of_heap this]; rfl
  have f2 : (w.alloc (.cells cs 5)).frozen? ⟨b, 1, none⟩ = false := Lib.frozen_of_heap ((Lib.alloc_old w _ b hlt).trans hbk) 1
  have hcopy : ∀ W : World, (Builtin.copy_ #[96, 96] 3 #[.slice (some ⟨w.heap.size, 0, none⟩) 0 cs.size, .slice none 0 0]).run prog W = .ok (goInt 0) W :=
    fun W => run_copy_none W 96 96 3 5 _ _ 0 cs.size 0 0 underlying96 b55_size rfl
  clear hw
  have mixed := Go.Checked.mixed Go.Proofs.Tryd.checked
  go_enter func95, ntmps95
  go_wp2
  have hfin := hmax (by unfold maxLen; omega)
  go_region_o
  all_goals (go_wp2; go_end0; exact ⟨rfl, cs, hle, hfin, rfl⟩)

end Go.Proofs.Tryd
end
section
namespace Go.Proofs.Tryd
open Go Go.AM Go.Lib

set_option maxHeartbeats 2000000 in
set_option maxRecDepth 1000000 in
theorem Grow_at (b n : Nat) (w : World) (hbk : w.heap[b]? = some (.cells #[.pointer none, .slice none 0 0] 98 (0, 0))) (h1 : 1 ≤ n) (hn : n ≤ 281474976710656) :
    Calls prog 86 #[.pointer (some ⟨b, 0, none⟩), .int .i64 n] w fun e w' => e = .returned (.tuple #[]) ∧ ∃ cs : Array Value, n ≤ cs.size ∧ cs.size ≤ maxLen ∧
      w' = (((w.setCell ⟨b, 0, none⟩ (.pointer (some ⟨b, 0, none⟩))).setCell ⟨b, 1, none⟩ (.slice (some ⟨w.heap.size, 0, none⟩) 0 cs.size)).alloc (.cells cs 5)).drew.drew.drew.drew := by
  have hbk1 : (w.setCell ⟨b, 0, none⟩ (.pointer (some ⟨b, 0, none⟩))).heap[b]? = some (.cells #[.pointer (some ⟨b, 0, none⟩), .slice none 0 0] 98 (0, 0)) := by
    simp [World.setCell, Array.getElem?_modify, hbk]
  have hsz1 : (w.setCell ⟨b, 0, none⟩ (.pointer (some ⟨b, 0, none⟩))).drew.heap.size = w.heap.size := by simp [World.setCell, World.drew, -World.drew_eq]
  have c1 : (w.setCell ⟨b, 0, none⟩ (.pointer (some ⟨b, 0, none⟩))).cell? ⟨b, 1, none⟩ = some (.slice none 0 0) := by rw [Lib.cell_of_heap hbk1]; rfl
  have mixed := Go.Checked.mixed Go.Proofs.Tryd.checked
  have e43 : ∀ args w, (callFunc 66 args).run prog w = .ok (.enter 66 args) w := enters_of func66 (by kernel_rfl) rfl
  have e58 : ∀ args w, (callFunc 95 args).run prog w = .ok (.enter 95 args) w := enters_of func95 (by kernel_rfl) rfl
  go_enter func86, ntmps86
  have c1' : (w.setCell ⟨b, 0, none⟩ (.pointer (some ⟨b, 0, none⟩))).drew.cell? ⟨b, 1, none⟩ = some (.slice none 0 0) := c1
  go_wp2_with (go_at_fn 66; refine (check_fresh b w (by rw [Lib.cell_of_heap hbk]; rfl) (by simp [World.shape?, hbk]) (Lib.frozen_of_heap hbk 0)).mono ?_; rintro e w' ⟨rfl, rfl⟩)
  go_region_o
  all_goals go_wp2_with (go_at_fn 95; refine (grow_at b n _ (w.setCell ⟨b, 0, none⟩ (.pointer (some ⟨b, 0, none⟩))).drew hbk1 hn).mono ?_; rintro e w' ⟨rfl, cs, h2, h3, rfl⟩)
  all_goals (go_end0; exact ⟨rfl, cs, h2, h3, rfl⟩)
end Go.Proofs.Tryd
end
section
set_option linter.unusedVariables false
set_option linter.unusedSimpArgs false
namespace Go.Proofs.Tryd
open Go Go.AM Go.Lib

theorem HRel.drew1 {E : Env} {m : Locs} {h : List Ob} {w : World} (R : HRel E m h w) : HRel E m h w.drew :=
  ⟨R.ext.trans (WExt.drew _ _), R.blk, R.inj, fun o => (R.obs o).mono (fun x u hv => hv.mono (fun o d hd => ⟨d, hd, .refl d⟩) (Nat.le_refl _) (fun b _ hb => ⟨hb, rfl⟩) (fun b c e fr h => ⟨c, fr, h, rfl⟩)) (fun _ _ _ _ => rfl), R.new, R.dle⟩

theorem arg2 {vs : Array Value} {x y : V} (h : vs.size = [x, y].length) : ∃ u v, vs = #[u, v] := by
  obtain ⟨l⟩ := vs
  match l, h with
  | [a, b], _ => exact ⟨a, b, rfl⟩

/-- One cell of a variable written: the world that the model's own store leaves. -/
theorem HRel.cell {E : Env} {m : Locs} {h : List Ob} {w : World} (R : HRel E m h w) {o fl blk : Nat} {t : TypeId} {cs0 : List V} (ho : h.getD o .unborn = .var t cs0) (hm : m o = some (blk, 0)) (hfl : fl < cs0.length) {x : V} {u : Value}
    (h1 : u.oneCell' = true) (hv : VRel (dirOf m h) (okc E m h) w x u) :
    HRel E m (setOb h o (.var t (over cs0 fl [x]))) (w.setCell ⟨blk, fl, none⟩ u) ∧
      (∀ x' u', VRel (dirOf m h) (okc E m h) w x' u' → VRel (dirOf m (setOb h o (.var t (over cs0 fl [x])))) (okc E m (setOb h o (.var t (over cs0 fl [x])))) (w.setCell ⟨blk, fl, none⟩ u) x' u') := by
  obtain ⟨w2, hr, H, hmono⟩ := R.writeVar (P := prog) ho hm (cs := [x]) (fl := fl) (by simp; omega) (us := [u]) rfl (by simpa using h1) (fun j y v hy hu => by
    cases j with
    | zero => simp at hy hu; subst hy; subst hu; exact hv
    | succ j => simp at hy)
  obtain ⟨blk', hm', hcs⟩ := var_cells R ho
  rw [hm] at hm'
  cases hm'
  obtain ⟨u0, hc0, _, _⟩ := hcs fl cs0[fl] (List.getElem?_eq_getElem hfl)
  have hob := R.obs o
  rw [ho, hm] at hob
  obtain ⟨_, c, hb, hc, _⟩ := hob
  cases hb
  rw [Nat.zero_add] at hc0 hr
  have hf0 : w.frozen? ⟨blk, fl, none⟩ = false := Lib.frozen_of_heap hc fl
  have hr2 := run_storeCells_cells (P := prog) blk fl [u] 0 w (fun j hj => by
    have : j = 0 := by simpa using hj
    subst this; simp [hc0]) (fun j hj => by
    have : j = 0 := by simpa using hj
    subst this; simpa using hf0) (by simpa using h1)
  rw [hr] at hr2
  have hw2 : w2 = w.setCell ⟨blk, fl, none⟩ u := by
    have := (Result.ok.inj hr2).2
    simpa [World.setCells] using this
  subst hw2
  exact ⟨H, hmono⟩

theorem setCell_alloc (w : World) (a : Addr) (v : Value) (o : Obj) (h : a.block < w.heap.size) : (w.setCell a v).alloc o = (w.alloc o).setCell a v := by
  unfold World.setCell World.alloc
  simp only [World.mk.injEq, and_true, true_and]
  apply Array.ext
  · simp
  · intro i h1 h2
    simp [Array.getElem_push, Array.getElem_modify]
    split
    · rfl
    · split
      · omega
      · rfl

theorem walk55 (k : Nat) (h1 : 1 ≤ k) (hk : k ≤ 281474976710656) : QC prog 86 [.ptr 0 0 0 0, .i .i64 k] [.var 98 [.c (.pointer none), .c (.slice none 0 0)]] (.tup []) [.var 98 [.ptr 0 0 0 0, .sl 1 0 0 0], .row 5 0 []] := by
  refine ⟨FOK_of func86 rfl (by kernel_rfl), fun w vs m ok _ R hsz hv => ?_⟩
  obtain ⟨u, u2, rfl⟩ := arg2 hsz
  obtain ⟨blk, u0, u1, hm, hc, hv0, hv1⟩ := var2 R rfl
  have hself := hv 0 _ u rfl rfl
  obtain rfl := self_ptr rfl hm hself
  obtain rfl := hv0.c_inv
  obtain rfl := hv1.c_inv
  obtain rfl := (hv 1 _ u2 rfl rfl).i_inv
  refine (Grow_at blk k w hc h1 hk).mono ?_
  rintro e w' ⟨rfl, cs, h2, h3, rfl⟩
  obtain ⟨R1, M1⟩ := HRel.cell R (o := 0) (fl := 0) rfl hm (by simp) (x := .ptr 0 0 0 0) (u := .pointer (some ⟨blk, 0, none⟩)) rfl hself
  have hlt : blk < w.heap.size := (R.blk 0 blk 0 trivial hm).2
  have hs1 : (w.setCell ⟨blk, 0, none⟩ (.pointer (some ⟨blk, 0, none⟩))).heap.size = w.heap.size := by simp [World.setCell]
  rw [setCell_alloc _ _ _ _ (by rw [hs1]; exact hlt)]
  generalize hw1 : w.setCell ⟨blk, 0, none⟩ (.pointer (some ⟨blk, 0, none⟩)) = w1 at *
  have R1' : HRel _ m [.var 98 [.ptr 0 0 0 0, .c (.slice none 0 0)]] w1 := R1
  have hnew : (w1.alloc (.cells cs 5)).heap[w.heap.size]? = some (.cells cs 5) := by rw [← hs1]; exact heap_alloc_new w1 _
  obtain ⟨R2, M2⟩ := R1'.set1 (o := 1) (ob' := .row 5 0 []) (loc' := some (w.heap.size, 0)) (h' := [.var 98 [.ptr 0 0 0 0, .c (.slice none 0 0)], .row 5 0 []]) (w' := w1.alloc (.cells cs 5))
    (fun x => by rcases x with _ | _ | x <;> rfl) (WExt.alloc _ _ _) (fun d hd => by cases hd)
    (fun b off hl _ => .inr (by cases hl; exact ⟨by omega, by simp [hs1]⟩))
    (fun D' ok' _ _ => ⟨by simp, by simp [most], rfl, cs, hnew, by simp, fun i j x hx => by simp at hx⟩)
  have hm2 : (fun x => if x = 1 then some (w.heap.size, 0) else m x) 0 = some (blk, 0) := by simpa using hm
  obtain ⟨R3, _⟩ := HRel.cell R2 (o := 0) (fl := 1) rfl hm2 (by simp) (x := .sl 1 0 0 0) (u := .slice (some ⟨w.heap.size, 0, none⟩) 0 cs.size) rfl (by
    have := VRel.sl (D := dirOf (fun x => if x = 1 then some (w.heap.size, 0) else m x) [.var 98 [.ptr 0 0 0 0, .c (.slice none 0 0)], .row 5 0 []]) (w := w1.alloc (.cells cs 5))
      (ok := okc ⟨w, ownOf m [.var 98 [.c (.pointer none), .c (.slice none 0 0)]], ok, dirOf m [.var 98 [.c (.pointer none), .c (.slice none 0 0)]], []⟩ (fun x => if x = 1 then some (w.heap.size, 0) else m x) [.var 98 [.ptr 0 0 0 0, .c (.slice none 0 0)], .row 5 0 []])
      1 0 0 0 1 w.heap.size 0 cs.size cs 5 (0, 0) rfl (Nat.zero_le _) hnew (by simp)
    simpa using this)
  exact ⟨_, _, rfl, HRel.drew1 (HRel.drew1 (HRel.drew1 (HRel.drew1 R3))), .tup [] [] rfl (fun j x u hx _ => by simp at hx)⟩
end Go.Proofs.Tryd
end
section
namespace Go.Proofs.Tryd
open Go Go.AM
attribute [local simp] wpG_op wpG_nil contG_some wpG_guard guardG_v guardG_o guardG_tup gval pureOp stepG_if isPick pickG_pick pickB_b pickOK isCall step_move step_assign step_alloc step_box boxV_some step_load step_store step_binOp step_unOp step_fieldAddr faV step_indexAddr ixA_slc ixA_arr step_extract extV_tup step_nilCheck ncV_ptr ncV_rp ncV_fn ncV_mp step_build buildV step_buildSlice bsV step_index ixV_arr ixV_str step_append apB step_makeSlice msV_i step_makeFunc over step_len step_makeMap mmV step_mapUpdate step_insert muA_map muB_mp step_lookup lkA_map lkB_mp step_slice slcV_s slcV_sl slcV_ro cutB_some slObV_arr bound_none bound_some bndV_i lenB_str lenB_ro lenB_sl lenB_nil lenB_z ld_ptr ld_rp offV_ptr offV_rp idxV_ro idxV_sl unV_not unV_neg binV_int binV_str binV_eqlb binV_neqb intOp strOp St.put updL setOb St.ev toV St.lk cellsOf AM.valOf TK.agg stv fillV places TI.zero condT_true condT_false finS resL resSlot packV ren ren1 ren0 Value.cells builtinV appendV elemsOf keepT room_of wrap_in toIdx passed Function.comp_def take_len_map lenV touchOf hid tab1 tab2 tab3 tab4 tab5 tab6 tab7 tab8 tab9 tab10 tab11 tab12 tab15 tab16 tab17 tab18 tab19 tab20 tab21 tab22 tab23 tab24 tab25 tab26 tab27 tab28 tab29 tab30 tab31 tab32 tab33 tab34 tab35 tab36 tab37 tab38 tab39 tab40 tab41 tab42 tab43 tab44 tab45 tab46 tab47 tab48 tab49 tab50 tab51 tab52 tab53 tab54 tab55 tab57 tab58 tab59 tab61 tab62 tab63 tab64 tab65 tab66 tab67 tab68 tab69 tab70 tab71 tab72 tab73 tab74 tab75 tab76 tab77 tab78 tab79 tab80 tab81 tab82 tab83 tab84 tab85 tab86 tab87 tab88 tab89 tab90 tab91 tab92 tab93 tab94 tab95 tab96 tab97 tab98 tab99 tab100 tab101 tab103 tab104 tab105 tab106 tab107 tab108 tab109 tab110 tab111 tab112 tab113 tab114 tab115 tab116 tab117 tab118 tab119 tab120 tab121 tab122 tab123 tab124 tab125 tab126 tab127 tab128 tab129 tab130 tab131 tab132 tab133 tab135 tab137 tab138 tab140 tab141 tab142 tab143 tab144 tab145 tab146 tab147 tab148 tab149 tab150 tab151 tab152 tab153 tab155 tab156 tab157 tab158 tab159 tab160 tab161 tab162 tab163 tab164 tab165 tab166 tab167 tab168 tab170 tab171 tab172 tab173 tab174 tab175 tab176 tab177 tab178 tab179 tab180 tab181 tab182 tab186 tab187 tab188 tab189 tab190 tab191 tab192 tab193 tab194 tab195 armC_eq blockC_eq bodyC_eq enumC_eq fieldC_eq fnC_eq inC_eq localC_eq mirBodyC_eq operC_eq placeC_eq rvC_eq sourceC_eq spotC_eq stepC_eq stmtC_eq structC_eq tmC_eq tyC_eq useC_eq valueC_eq variantC_eq cutL_nil cutL_junk cutL_cons ren_arr ren_gone ren_unborn ren_var ren_row step_convert cvV_i cvV_sl cvV_s cvK_slc cvE_u8 bytesOf bor1 bor2 bor3 bor4
set_option linter.unusedSimpArgs false
set_option linter.unusedVariables false
set_option maxRecDepth 10000
set_option maxHeartbeats 4000000
noncomputable section
def bytesX : List (List V) → Option (List UInt8)
  | [] => some []
  | [.i .u8 n] :: r => if 0 ≤ n ∧ n < 256 then (bytesX r).map (UInt8.ofNat n.toNat :: ·) else none
  | _ => none
theorem bytesX_ok : ∀ {es : List (List V)} {l : List UInt8}, bytesX es = some l → es = l.map byteV
  | [], l, h => by simp [bytesX] at h; subst h; rfl
  | [.i .u8 n] :: r, l, h => by
    simp only [bytesX] at h
    split at h
    · rename_i hn
      cases hr : bytesX r with
      | none => rw [hr] at h; cases h
      | some l' =>
        rw [hr] at h
        simp only [Option.map_some, Option.some.injEq] at h
        subst h
        rw [List.map_cons, ← bytesX_ok hr, byteV]
        congr 2
        rw [UInt8.toNat_ofNat']
        congr 1
        omega
    · cases h
  | [] :: _, _, h => by simp [bytesX] at h
  | (_ :: _ :: _) :: _, _, h => by simp [bytesX] at h
def ORb : FuncId → List V → List Ob → Option (V × List Ob)
  | 66, [.ptr 0 0 0 0], .var 98 [.ptr 0 0 0 0, v] :: rest => some (.tup [], .var 98 [.ptr 0 0 0 0, v] :: rest)
  | 66, [.ptr 0 0 0 0], .var 98 [.c (.pointer none), v] :: rest => some (.tup [], .var 98 [.ptr 0 0 0 0, v] :: rest)
  | 37, [.ptr 0 0 0 0], [.var 98 [_, .c (.slice none 0 0)]] => some (.s [], [.gone])
  | 37, [.ptr 0 0 0 0], [.var 98 [_, .sl 1 ep 0 n], .row 5 ep' es] => match bytesX es with
    | some (b :: l) => if ep' = ep ∧ n = l.length + 1 then some (.s (b :: l), [.gone, .gone]) else none
    | _ => none
  | 86, [.ptr 0 0 0 0, .i .i64 k], [.var 98 [.c (.pointer none), .c (.slice none 0 0)]] => if 1 ≤ k ∧ k ≤ 281474976710656 then some (.tup [], [.var 98 [.ptr 0 0 0 0, .sl 1 0 0 0], .row 5 0 []]) else none
  | _, _, _ => none
theorem ORb_ok : CallOK prog ORb := by
  intro f args objs r objs' h
  unfold ORb at h
  split at h
  · cases h; exact walk43u _ _
  · cases h; exact walk43n _ _
  · cases h; exact walk35n _
  · split at h
    · rename_i b l hb
      split at h
      · rename_i hc
        obtain ⟨rfl, rfl⟩ := hc
        cases h
        rw [bytesX_ok hb]
        exact walk35r _ (b :: l) (by simp) _
      · cases h
    · cases h
  · split at h
    · rename_i k hc
      cases h
      obtain ⟨k', rfl⟩ := Int.eq_ofNat_of_zero_le (show 0 ≤ k by omega)
      exact walk55 k' (by omega) (by omega)
    · cases h
  · cases h
/-- The functions that the example runs. -/
noncomputable def F_works09 : FuncId → Option Func
  | 7 => some f7
  | 10 => some f10
  | 11 => some f11
  | 15 => some f15
  | 17 => some f17
  | 22 => some f22
  | 23 => some f23
  | 24 => some f24
  | 25 => some f25
  | 26 => some f26
  | 27 => some f27
  | 29 => some f29
  | 30 => some f30
  | 31 => some f31
  | 32 => some f32
  | 33 => some f33
  | 34 => some f34
  | 35 => some f35
  | 36 => some f36
  | 37 => some f37
  | 42 => some f42
  | 43 => some f43
  | 44 => some f44
  | 45 => some f45
  | 46 => some f46
  | 47 => some f47
  | 48 => some f48
  | 49 => some f49
  | 50 => some f50
  | 51 => some f51
  | 52 => some f52
  | 53 => some f53
  | 54 => some f54
  | 55 => some f55
  | 56 => some f56
  | 57 => some f57
  | 58 => some f58
  | 59 => some f59
  | 60 => some f60
  | 61 => some f61
  | 62 => some f62
  | 63 => some f63
  | 64 => some f64
  | 65 => some f65
  | 66 => some f66
  | 67 => some f67
  | 68 => some f68
  | 69 => some f69
  | 70 => some f70
  | 71 => some f71
  | 76 => some f76
  | 77 => some f77
  | 78 => some f78
  | 79 => some f79
  | 80 => some f80
  | 81 => some f81
  | 82 => some f82
  | 83 => some f83
  | 84 => some f84
  | 85 => some f85
  | 86 => some f86
  | 87 => some f87
  | 89 => some f89
  | 90 => some f90
  | 91 => some f91
  | 92 => some f92
  | 93 => some f93
  | 94 => some f94
  | 95 => some f95
  | 96 => some f96
  | 97 => some f97
  | 98 => some f98
  | 99 => some f99
  | 100 => some f100
  | 101 => some f101
  | 102 => some f102
  | 103 => some f103
  | 104 => some f104
  | 105 => some f105
  | 106 => some f106
  | 107 => some f107
  | 108 => some f108
  | _ => none
theorem F_works09_ok (f : FuncId) (fn : Func) (h : F_works09 f = some fn) : prog.funcs[f]? = some fn ∧ (fn.name == "runtime.NumGoroutine") = false := by
  unfold F_works09 at h
  split at h
  · cases h; exact ⟨func7, by kernel_rfl⟩
  · cases h; exact ⟨func10, by kernel_rfl⟩
  · cases h; exact ⟨func11, by kernel_rfl⟩
  · cases h; exact ⟨func15, by kernel_rfl⟩
  · cases h; exact ⟨func17, by kernel_rfl⟩
  · cases h; exact ⟨func22, by kernel_rfl⟩
  · cases h; exact ⟨func23, by kernel_rfl⟩
  · cases h; exact ⟨func24, by kernel_rfl⟩
  · cases h; exact ⟨func25, by kernel_rfl⟩
  · cases h; exact ⟨func26, by kernel_rfl⟩
  · cases h; exact ⟨func27, by kernel_rfl⟩
  · cases h; exact ⟨func29, by kernel_rfl⟩
  · cases h; exact ⟨func30, by kernel_rfl⟩
  · cases h; exact ⟨func31, by kernel_rfl⟩
  · cases h; exact ⟨func32, by kernel_rfl⟩
  · cases h; exact ⟨func33, by kernel_rfl⟩
  · cases h; exact ⟨func34, by kernel_rfl⟩
  · cases h; exact ⟨func35, by kernel_rfl⟩
  · cases h; exact ⟨func36, by kernel_rfl⟩
  · cases h; exact ⟨func37, by kernel_rfl⟩
  · cases h; exact ⟨func42, by kernel_rfl⟩
  · cases h; exact ⟨func43, by kernel_rfl⟩
  · cases h; exact ⟨func44, by kernel_rfl⟩
  · cases h; exact ⟨func45, by kernel_rfl⟩
  · cases h; exact ⟨func46, by kernel_rfl⟩
  · cases h; exact ⟨func47, by kernel_rfl⟩
  · cases h; exact ⟨func48, by kernel_rfl⟩
  · cases h; exact ⟨func49, by kernel_rfl⟩
  · cases h; exact ⟨func50, by kernel_rfl⟩
  · cases h; exact ⟨func51, by kernel_rfl⟩
  · cases h; exact ⟨func52, by kernel_rfl⟩
  · cases h; exact ⟨func53, by kernel_rfl⟩
  · cases h; exact ⟨func54, by kernel_rfl⟩
  · cases h; exact ⟨func55, by kernel_rfl⟩
  · cases h; exact ⟨func56, by kernel_rfl⟩
  · cases h; exact ⟨func57, by kernel_rfl⟩
  · cases h; exact ⟨func58, by kernel_rfl⟩
  · cases h; exact ⟨func59, by kernel_rfl⟩
  · cases h; exact ⟨func60, by kernel_rfl⟩
  · cases h; exact ⟨func61, by kernel_rfl⟩
  · cases h; exact ⟨func62, by kernel_rfl⟩
  · cases h; exact ⟨func63, by kernel_rfl⟩
  · cases h; exact ⟨func64, by kernel_rfl⟩
  · cases h; exact ⟨func65, by kernel_rfl⟩
  · cases h; exact ⟨func66, by kernel_rfl⟩
  · cases h; exact ⟨func67, by kernel_rfl⟩
  · cases h; exact ⟨func68, by kernel_rfl⟩
  · cases h; exact ⟨func69, by kernel_rfl⟩
  · cases h; exact ⟨func70, by kernel_rfl⟩
  · cases h; exact ⟨func71, by kernel_rfl⟩
  · cases h; exact ⟨func76, by kernel_rfl⟩
  · cases h; exact ⟨func77, by kernel_rfl⟩
  · cases h; exact ⟨func78, by kernel_rfl⟩
  · cases h; exact ⟨func79, by kernel_rfl⟩
  · cases h; exact ⟨func80, by kernel_rfl⟩
  · cases h; exact ⟨func81, by kernel_rfl⟩
  · cases h; exact ⟨func82, by kernel_rfl⟩
  · cases h; exact ⟨func83, by kernel_rfl⟩
  · cases h; exact ⟨func84, by kernel_rfl⟩
  · cases h; exact ⟨func85, by kernel_rfl⟩
  · cases h; exact ⟨func86, by kernel_rfl⟩
  · cases h; exact ⟨func87, by kernel_rfl⟩
  · cases h; exact ⟨func89, by kernel_rfl⟩
  · cases h; exact ⟨func90, by kernel_rfl⟩
  · cases h; exact ⟨func91, by kernel_rfl⟩
  · cases h; exact ⟨func92, by kernel_rfl⟩
  · cases h; exact ⟨func93, by kernel_rfl⟩
  · cases h; exact ⟨func94, by kernel_rfl⟩
  · cases h; exact ⟨func95, by kernel_rfl⟩
  · cases h; exact ⟨func96, by kernel_rfl⟩
  · cases h; exact ⟨func97, by kernel_rfl⟩
  · cases h; exact ⟨func98, by kernel_rfl⟩
  · cases h; exact ⟨func99, by kernel_rfl⟩
  · cases h; exact ⟨func100, by kernel_rfl⟩
  · cases h; exact ⟨func101, by kernel_rfl⟩
  · cases h; exact ⟨func102, by kernel_rfl⟩
  · cases h; exact ⟨func103, by kernel_rfl⟩
  · cases h; exact ⟨func104, by kernel_rfl⟩
  · cases h; exact ⟨func105, by kernel_rfl⟩
  · cases h; exact ⟨func106, by kernel_rfl⟩
  · cases h; exact ⟨func107, by kernel_rfl⟩
  · cases h; exact ⟨func108, by kernel_rfl⟩
  · cases h
theorem run_works09 : exTrue (exF tab F_works09 ORb 100 7 [] []) = true := by kernel_rfl
theorem w_works09 : QC prog 7 [] [] (.b true) [] := exF_ok tabOK mixedOK F_works09_ok ORb_ok 100 _ _ _ _ _ (exTrue_ok run_works09)
end
end Go.Proofs.Tryd
end
