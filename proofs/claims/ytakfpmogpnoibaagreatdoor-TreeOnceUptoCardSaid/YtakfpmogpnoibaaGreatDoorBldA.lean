/- Contracts of a string builder's methods, and of the library's; the document's example, run. -/
import Derived.Test.YtakfpmogpnoibaaGreatDoorChecked
import Derived.Eval
import Derived.Lib.Builder
import Derived.Lib.UnsafeStr
import Derived.Lib.Walk
import Derived.WalkKit
import Derived.Laws.Externs
import Derived.Laws.IdiomCopy
import Derived.Shelf.RegionOpenPlain
import Derived.Lib.Strings
import Derived.Lib.Slices
import Derived.Lib.AppendStr
import Derived.Lib.MakeNoZero
import Derived.Shelf.LaysM
import Derived.Shelf.Strconv.Itoa3
import Derived.Test.YtakfpmogpnoibaaGreatDoorProg
import Derived.Shelf.Strings.OnBuilder
import Derived.Shelf.Strings.Repeat
import Derived.Test.YtakfpmogpnoibaaGreatDoorMachD
import Derived.Test.YtakfpmogpnoibaaGreatDoorMachE
import Derived.Test.YtakfpmogpnoibaaGreatDoorRefA
set_option linter.unusedVariables false
set_option linter.unusedSimpArgs false
set_option linter.constructorNameAsVariable false
section
namespace Go.Proofs.Tryz
open Go Go.AM

theorem b43_size : (prog.info? 125).map (·.size) = some 2 := by kernel_rfl
theorem b43_lies : liesAt prog prog.depth 125 (2 / prog.cellsOf 125) 0 125 1 = true := by kernel_rfl

set_option maxHeartbeats 1000000 in
set_option maxRecDepth 100000 in
theorem check_used (b : Nat) (w : World) (h0 : w.cell? ⟨b, 0, none⟩ = some (.pointer (some ⟨b, 0, none⟩))) :
    Calls prog 188 #[.pointer (some ⟨b, 0, none⟩)] w fun e w' => e = .returned (.tuple #[]) ∧ w' = w := by
  obtain ⟨j, hj, _⟩ := Option.map_eq_some_iff.1 b43_size
  go_enter func188, ntmps188
  go_wp2
  rw [Lib.run_neq_ptr_same w _ underlying122 hj]
  go_wp2
  go_end0
  exact ⟨rfl, rfl⟩

set_option maxHeartbeats 1000000 in
set_option maxRecDepth 100000 in
theorem check_fresh (b : Nat) (w : World) (h0 : w.cell? ⟨b, 0, none⟩ = some (.pointer none)) (hsh : w.shape? b = some (125, 2)) (hfz : w.frozen? ⟨b, 0, none⟩ = false) :
    Calls prog 188 #[.pointer (some ⟨b, 0, none⟩)] w fun e w' => e = .returned (.tuple #[]) ∧ w' = w.setCell ⟨b, 0, none⟩ (.pointer (some ⟨b, 0, none⟩)) := by
  obtain ⟨j, hj, hjs⟩ := Option.map_eq_some_iff.1 b43_size
  go_enter func188, ntmps188
  go_wp2
  rw [Lib.run_to_unsafe w ⟨b, 0, none⟩ underlying122 underlying242 hj (by rw [hjs]; decide) hsh (Nat.zero_lt_succ 1)]
  simp only [Result.andThen]
  rw [Oper.upon_value]
  go_wp2
  rw [run_callFunc_extern func212 (by kernel_rfl) (by kernel_rfl) (by kernel_rfl) (e := Extern.AbiNoEscape.same) (by kernel_rfl)]
  rw [Lib.run_noEscape]
  simp only [Result.andThen]
  rw [Oper.upon_value]
  go_wp2
  rw [Lib.run_from_unsafe w ⟨b, 0, none⟩ underlying242 underlying122 hj hsh b43_lies]
  simp only [Result.andThen]
  rw [Oper.upon_value]
  go_wp2
  go_end0
  exact ⟨rfl, rfl⟩
end Go.Proofs.Tryz
end
section
namespace Go.Proofs.Tryz
open Go Go.AM Go.Lib

theorem b35_cells : prog.cellsOf 5 = 1 := by kernel_rfl

set_option maxHeartbeats 2000000 in
set_option maxRecDepth 100000 in
theorem string_at (b g cap : Nat) (p : Value) (c : Array Value) (l : List UInt8) (w : World) (hbk : w.heap[b]? = some (.cells #[p, .slice (some ⟨g, 0, none⟩) l.length cap] 125 (0, 0))) (h0 : l ≠ [])
    (hg : w.heap[g]? = some (.cells c 5 (0, 0))) (hn : l.length ≤ c.size) (hcap : l.length ≤ cap) (h63 : l.length ≤ 9223372036854775807) (hcs : ∀ (j : Nat) (x : UInt8), l[j]? = some x → c[j]? = some (Value.int .u8 x.toNat)) :
    Calls prog 77 #[.pointer (some ⟨b, 0, none⟩)] w fun e w' => e = .returned (.string ⟨l.toArray⟩) ∧ w' = w.drew.freeze ⟨g, 0, none⟩ l.length := by
  have hl0 : l.length ≠ 0 := by simpa using h0
  have c1 : w.drew.cell? ⟨b, 1, none⟩ = some (.slice (some ⟨g, 0, none⟩) l.length cap) := by
    have : w.drew.heap[b]? = some (.cells #[p, .slice (some ⟨g, 0, none⟩) l.length cap] 125 (0, 0)) := hbk
    rw [Lib.cell_of_heap this]; rfl
  have hSD : (Builtin.unsafeSliceData_ #[123] 189 #[.slice (some ⟨g, 0, none⟩) l.length cap]).run prog w.drew = .ok (.pointer (some ⟨g, 0, none⟩)) w.drew :=
    Lib.run_unsafeSliceData_row _ _ _ _ _ _ (by omega)
  have hg' : w.drew.heap[g]? = some (.cells c 5 (0, 0)) := hg
  have hUS : (Builtin.unsafeString_ #[189, 3] 9 #[.pointer (some ⟨g, 0, none⟩), .int .i64 l.length]).run prog w.drew = .ok (.string ⟨l.toArray⟩) (w.drew.freeze ⟨g, 0, none⟩ l.length) := by
    refine Lib.run_unsafeString_row w.drew 189 3 9 5 underlying189 b35_cells g c.size (by simp [World.shape?, hg']) l h0 hn h63 ?_
    intro j x hx
    rw [show (⟨g, 0, none⟩ : Addr).add j = ⟨g, 0 + j, none⟩ by unfold Addr.add; split <;> simp_all]
    rw [Lib.cell_of_heap hg', Nat.zero_add]
    exact hcs j x hx
  have mixed := Go.Checked.mixed Go.Proofs.Tryz.checked
  go_enter func77, ntmps77
  go_wp2
  go_region_o
  all_goals (go_wp2; go_ret; exact ⟨rfl, rfl⟩)
end Go.Proofs.Tryz
end
section
namespace Go.Proofs.Tryz
open Go Go.AM Go.Lib

theorem FOK_of {P : Program} {f : FuncId} {fn : Func} {c : Code} (hf : P.funcs[f]? = some fn) (hb : fn.body = some c) (hname : (fn.name == "runtime.NumGoroutine") = false) : FOK P f := by
  intro vs w
  have hne : ¬ (fn.name = "runtime.NumGoroutine") := by simpa using hname
  simp [callFunc, hf, hb, hne]

set_option maxHeartbeats 2000000 in
set_option maxRecDepth 100000 in
theorem string_nil (b : Nat) (p : Value) (w : World) (hbk : w.heap[b]? = some (.cells #[p, .slice none 0 0] 125 (0, 0))) :
    Calls prog 77 #[.pointer (some ⟨b, 0, none⟩)] w fun e w' => e = .returned (.string ⟨#[]⟩) ∧ w' = w.drew := by
  have hUS : ∀ W : World, (Builtin.unsafeString_ #[189, 3] 9 #[.pointer none, .int .i64 0]).run prog W = .ok (.string .empty) W := fun W => Lib.run_unsafeString_none W _ _ _ none
  have c1 : w.drew.cell? ⟨b, 1, none⟩ = some (.slice none 0 0) := by
    have : w.drew.heap[b]? = some (.cells #[p, .slice none 0 0] 125 (0, 0)) := hbk
    rw [Lib.cell_of_heap this]; rfl
  have hSD : (Builtin.unsafeSliceData_ #[123] 189 #[.slice none 0 0]).run prog w.drew = .ok (.pointer none) w.drew := rfl
  have mixed := Go.Checked.mixed Go.Proofs.Tryz.checked
  go_enter func77, ntmps77
  go_wp2
  go_region_o
  all_goals (go_wp2; go_ret; exact ⟨rfl, rfl⟩)

theorem var2 {E : Env} {m : Locs} {objs : List Ob} {w : World} {p v : V} (R : HRel E m objs w) (ho : objs.getD 0 .unborn = .var 125 [p, v]) :
    ∃ blk u0 u1, m 0 = some (blk, 0) ∧ w.heap[blk]? = some (.cells #[u0, u1] 125 (0, 0)) ∧ VRel (dirOf m objs) (okc E m objs) w p u0 ∧ VRel (dirOf m objs) (okc E m objs) w v u1 := by
  have hob := R.obs 0
  rw [ho] at hob
  obtain ⟨blk, c, hm, hc, hsz, _, hcs⟩ := hob
  obtain ⟨u0, h1, _, h2⟩ := hcs 0 p rfl
  obtain ⟨u1, h3, _, h4⟩ := hcs 1 v rfl
  refine ⟨blk, u0, u1, hm, ?_, h2, h4⟩
  rw [hc]
  congr 2
  apply Array.ext
  · simpa using hsz
  · intro i hi _
    have hi2 : i < 2 := by rw [hsz] at hi; simpa using hi
    rcases i with _ | _ | i
    · rw [Array.getElem?_eq_getElem (by omega)] at h1; simpa using h1
    · rw [Array.getElem?_eq_getElem (by omega)] at h3; simpa using h3
    · omega

theorem self_ptr {E : Env} {m : Locs} {objs : List Ob} {w : World} {p v : V} {blk fl : Nat} {u : Value} (ho : objs.getD 0 .unborn = .var 125 [p, v]) (hm : m 0 = some (blk, 0)) (hv : VRel (dirOf m objs) (okc E m objs) w (.ptr 0 0 0 fl) u) : u = .pointer (some ⟨blk, fl, none⟩) := by
  have := var_ptr ho hm hv
  rwa [Nat.zero_add] at this

theorem arg1 {vs : Array Value} {x : V} (h : vs.size = [x].length) : ∃ u, vs = #[u] := by
  obtain ⟨l⟩ := vs
  cases l with
  | nil => simp at h
  | cons a l =>
    cases l with
    | nil => exact ⟨a, rfl⟩
    | cons => simp at h

theorem walk43u (v : V) (rest : List Ob) : QC prog 188 [.ptr 0 0 0 0] (.var 125 [.ptr 0 0 0 0, v] :: rest) (.tup []) (.var 125 [.ptr 0 0 0 0, v] :: rest) := by
  refine ⟨FOK_of func188 rfl (by kernel_rfl), fun w vs m ok _ R hsz hv => ?_⟩
  obtain ⟨u, rfl⟩ := arg1 hsz
  obtain ⟨blk, u0, u1, hm, hc, h0, h1⟩ := var2 R rfl
  obtain rfl := self_ptr rfl hm (hv 0 _ u rfl rfl)
  obtain rfl := self_ptr rfl hm h0
  refine (check_used blk w (by rw [Lib.cell_of_heap hc]; rfl)).mono ?_
  rintro e w' ⟨rfl, rfl⟩
  exact ⟨_, m, rfl, R, .tup [] [] rfl (fun j x u hx _ => by simp at hx)⟩

theorem walk43n (v : V) (rest : List Ob) : QC prog 188 [.ptr 0 0 0 0] (.var 125 [.c (.pointer none), v] :: rest) (.tup []) (.var 125 [.ptr 0 0 0 0, v] :: rest) := by
  refine ⟨FOK_of func188 rfl (by kernel_rfl), fun w vs m ok _ R hsz hv => ?_⟩
  obtain ⟨u, rfl⟩ := arg1 hsz
  obtain ⟨blk, u0, u1, hm, hc, h0, h1⟩ := var2 R rfl
  have hself := hv 0 _ u rfl rfl
  obtain rfl := self_ptr rfl hm hself
  obtain rfl := h0.c_inv
  have hc0 : w.cell? ⟨blk, 0, none⟩ = some (.pointer none) := by rw [Lib.cell_of_heap hc]; rfl
  have hf0 : w.frozen? ⟨blk, 0, none⟩ = false := by simp [World.frozen?, hc]
  refine (check_fresh blk w hc0 (by simp [World.shape?, hc]) hf0).mono ?_
  rintro e w' ⟨rfl, rfl⟩
  obtain ⟨w2, hr, H, hmono⟩ := R.writeVar (P := prog) (o := 0) (fl := 0) rfl hm (cs := [.ptr 0 0 0 0]) (by simp) (us := [.pointer (some ⟨blk, 0, none⟩)]) rfl (by simp [Value.oneCell']) (fun j x u hx hu => by
    cases j with
    | zero => simp at hx hu; subst hx; subst hu; exact hself
    | succ j => simp at hx)
  have hr2 := run_storeCells_cells (P := prog) blk 0 [.pointer (some ⟨blk, 0, none⟩)] 0 w (fun j hj => by
    have : j = 0 := by simpa using hj
    subst this; simp [hc0]) (fun j hj => by
    have : j = 0 := by simpa using hj
    subst this; simpa using hf0) (by simp [Value.oneCell'])
  rw [Nat.zero_add] at hr
  rw [hr] at hr2
  have hw2 : w2 = w.setCell ⟨blk, 0, none⟩ (.pointer (some ⟨blk, 0, none⟩)) := by
    have := (Result.ok.inj hr2).2
    simpa [World.setCells] using this
  subst hw2
  exact ⟨_, m, rfl, H, .tup [] [] rfl (fun j x u hx _ => by simp at hx)⟩
end Go.Proofs.Tryz
end
section
namespace Go.Proofs.Tryz
open Go Go.AM Go.Lib

theorem WExt.freeze {S : Nat → Prop} (w : World) (p : Addr) (n : Nat) (hS : S p.block) : WExt S w (w.freeze p n) := by
  unfold World.freeze
  split
  · exact WExt.refl S w
  · refine ⟨rfl, rfl, rfl, by simp, fun b hb hn => ?_, fun b c e fr h => ?_⟩
    · have hne : p.block ≠ b := fun e => hn (e ▸ hS)
      simp [Array.getElem?_modify, hne]
    · by_cases hpb : p.block = b
      · subst hpb
        obtain ⟨lo, hi⟩ := fr
        refine ⟨c, if (lo == hi) = true then (p.off, p.off + n) else (min lo p.off, max hi (p.off + n)), ?_, rfl⟩
        simp only [Array.getElem?_modify, if_true, h, Option.map_some]
      · exact ⟨c, fr, by simp [Array.getElem?_modify, hpb, h], rfl⟩

theorem HRel.allGone {E : Env} {m : Locs} {objs objs' : List Ob} {w w' : World} (R : HRel E m objs w) (hl : objs'.length = objs.length) (hg : ∀ ob ∈ objs', ob = .gone) (hx : WExt E.own w w') : HRel E m objs' w' := by
  have hdead : ∀ o, ¬ live (objs'.getD o .unborn) := by
    intro o
    rw [List.getD_eq_getElem?_getD]
    cases ho : objs'[o]? with
    | none => simp [live]
    | some ob => rw [hg ob (List.mem_of_getElem? ho)]; simp [live]
  refine ⟨R.ext.trans' hx (fun x _ h => h), fun o blk off h _ => (hdead o h).elim, fun o o' blk off off' h _ => (hdead o h).elim, fun o => ?_, fun o blk off h _ => (hdead o h).elim, fun o d hd => ?_⟩
  · rw [List.getD_eq_getElem?_getD]
    cases ho : objs'[o]? with
    | none => trivial
    | some ob => rw [hg ob (List.mem_of_getElem? ho)]; trivial
  · obtain ⟨d', h1, h2⟩ := R.dle o d hd
    rw [dirOf_eq] at h1
    have hlt : o < objs'.length := by
      rw [hl]
      rcases Nat.lt_or_ge o objs.length with h | h
      · exact h
      · have : objs.getD o .unborn = .unborn := by simp [List.getD, List.getElem?_eq_none h]
        rw [this] at h1; cases h1
    refine ⟨.gone, ?_, .gone _⟩
    rw [dirOf_eq, List.getD_eq_getElem?_getD, List.getElem?_eq_getElem hlt, Option.getD_some, hg _ (List.getElem_mem hlt)]
    rfl

theorem sl_at {D : Dir} {ok : Nat → Prop} {w : World} {o ep off n sz : Nat} {loc : Option (Nat × Nat)} {u : Value} (h : VRel D ok w (.sl o ep off n) u) (hn : n ≠ 0) (hD : D o = some (.arr ep sz loc)) :
    ∃ g o0 cap, loc = some (g, o0) ∧ u = .slice (some ⟨g, o0 + off * sz, none⟩) n cap ∧ n ≤ cap := by
  cases h with
  | pure h => cases h
  | sl0 => exact absurd rfl hn
  | slS _ _ _ _ _ d _ hD2 hst _ =>
    rw [hD] at hD2
    obtain rfl := Option.some.inj hD2
    exact (stale_arr hst).elim
  | sl _ _ _ _ sz2 g o0 cap cl e fr hD2 hcap hb hf =>
    rw [hD] at hD2
    simp only [Option.some.injEq, DE.arr.injEq, true_and] at hD2
    obtain ⟨rfl, rfl⟩ := hD2
    exact ⟨g, o0, cap, rfl, rfl, hcap⟩

def byteV (b : UInt8) : List V := [.i .u8 (b.toNat : Int)]

theorem walk35n (p : V) : QC prog 77 [.ptr 0 0 0 0] [.var 125 [p, .c (.slice none 0 0)]] (.s []) [.gone] := by
  refine ⟨FOK_of func77 rfl (by kernel_rfl), fun w vs m ok _ R hsz hv => ?_⟩
  obtain ⟨u, rfl⟩ := arg1 hsz
  obtain ⟨blk, u0, u1, hm, hc, h0, h1⟩ := var2 R rfl
  obtain rfl := self_ptr rfl hm (hv 0 _ u rfl rfl)
  obtain rfl := h1.c_inv
  refine (string_nil blk u0 w hc).mono ?_
  rintro e w' ⟨rfl, rfl⟩
  exact ⟨_, m, rfl, HRel.allGone R rfl (by simp) (WExt.drew _ _), .str []⟩

theorem walk35r (ep : Nat) (l : List UInt8) (hl : l ≠ []) (p : V) : QC prog 77 [.ptr 0 0 0 0] [.var 125 [p, .sl 1 ep 0 l.length], .row 5 ep (l.map byteV)] (.s l) [.gone, .gone] := by
  refine ⟨FOK_of func77 rfl (by kernel_rfl), fun w vs m ok _ R hsz hv => ?_⟩
  obtain ⟨u, rfl⟩ := arg1 hsz
  obtain ⟨blk, u0, u1, hm, hc, h0, h1⟩ := var2 R rfl
  obtain rfl := self_ptr rfl hm (hv 0 _ u rfl rfl)
  have hlen : l.length ≠ 0 := by simpa using hl
  have hob : OKo _ _ w (m 1) (.row 5 ep (l.map byteV)) := R.obs 1
  have hD1 : dirOf m [Ob.var 125 [p, V.sl 1 ep 0 l.length], Ob.row 5 ep (l.map byteV)] 1 = some (.arr ep 1 (m 1)) := rfl
  obtain ⟨g, o0, cap, hm1, rfl, hcap⟩ := sl_at h1 hlen hD1
  · skip
    rw [hm1] at hob
    obtain ⟨_, hmost, rfl, c, hcg, hsz2, hcs⟩ := hob
    rw [List.length_map] at hmost hsz2
    have hcs' : ∀ (j : Nat) (x : UInt8), l[j]? = some x → c[j]? = some (Value.int .u8 x.toNat) := by
      intro j x hx
      obtain ⟨u, h2, _, h3⟩ := hcs j 0 (.i .u8 (x.toNat : Int)) (by rw [List.getElem?_map, hx]; rfl)
      rw [Nat.zero_add, Nat.mul_one, Nat.add_zero] at h2
      rw [h2, h3.i_inv]
    have hc' : w.heap[blk]? = some (.cells #[u0, .slice (some ⟨g, 0, none⟩) l.length cap] 125 (0, 0)) := by simpa using hc
    refine (string_at blk g cap u0 c l w hc' hl hcg (by omega) hcap (by unfold most at hmost; exact hmost) hcs').mono ?_
    rintro e w' ⟨rfl, rfl⟩
    refine ⟨_, m, rfl, HRel.allGone R rfl (by simp) ((WExt.drew _ w).trans (WExt.freeze _ _ _ ?_)), .str l⟩
    exact ⟨1, 0, trivial, hm1⟩
theorem ren_var {μ : Nat → Option Nat} {t : TypeId} {cs : List V} : (Ob.var t cs).ren μ = .var t (cs.map (ren0 μ)) := rfl
theorem ren_row {μ : Nat → Option Nat} {e : TypeId} {ep : Nat} {es : List (List V)} : (Ob.row e ep es).ren μ = .row e ep (es.map fun x => x.map (ren0 μ)) := rfl
end Go.Proofs.Tryz
end
section
namespace Go.Proofs.Tryz
open Go Go.AM Go.Lib

theorem b55_size : (prog.info? 5).map (·.size) = some 1 := by kernel_rfl

set_option maxHeartbeats 2000000 in
set_option maxRecDepth 1000000 in
theorem grow_at (b n : Nat) (p : Value) (w : World) (hbk : w.heap[b]? = some (.cells #[p, .slice none 0 0] 125 (0, 0))) (hn : n ≤ 281474976710656) :
    Calls prog 216 #[.pointer (some ⟨b, 0, none⟩), .int .i64 n] w fun e w' => e = .returned (.tuple #[]) ∧ ∃ cs : Array Value, n ≤ cs.size ∧ cs.size ≤ maxLen ∧ w' = ((w.setCell ⟨b, 1, none⟩ (.slice (some ⟨w.heap.size, 0, none⟩) 0 cs.size)).alloc (.cells cs 5)).drew.drew.drew := by
  obtain ⟨cs, hrun, hle, hmax⟩ := Lib.run_makeNoZero (P := prog) w.drew #[3] 123 5 underlying123 n hn
  have hw : IntKind.i64.wrap (IntKind.i64.wrap 0 + (n : Int)) = n := by
    rw [IntKind.wrap_i64, IntKind.wrap_i64]
    omega
  have hcall : (callFunc 228 #[.int .i64 (IntKind.i64.wrap (IntKind.i64.wrap 0 + (n : Int)))]).run prog w.drew = .ok (.value (.slice (some ⟨w.drew.heap.size, 0, none⟩) n cs.size)) (w.drew.drew.drew.alloc (.cells cs 5)) := by
    rw [hw, run_callFunc_extern func228 (by kernel_rfl) (by kernel_rfl) (by kernel_rfl) (e := Extern.BytealgMakeNoZero.makeNoZero #[3] #[123]) (by kernel_rfl), hrun]
    rfl
  have hlt : b < w.heap.size := by
    rcases Nat.lt_or_ge b w.heap.size with h' | h'
    · exact h'
    · simp [Array.getElem?_eq_none h'] at hbk
  have c1 : w.drew.cell? ⟨b, 1, none⟩ = some (.slice none 0 0) := by
    have : w.drew.heap[b]? = _ := hbk
    rw [Lib.cell_of_heap this]; rfl
  have c2 : (w.alloc (.cells cs 5)).cell? ⟨b, 1, none⟩ = some (.slice none 0 0) := by
    have : (w.alloc (.cells cs 5)).heap[b]? = _ := (Lib.alloc_old w _ b hlt).trans hbk
    rw [Lib.cell_of_heap this]; rfl
  have f2 : (w.alloc (.cells cs 5)).frozen? ⟨b, 1, none⟩ = false := Lib.frozen_of_heap ((Lib.alloc_old w _ b hlt).trans hbk) 1
  have hcopy : ∀ W : World, (Builtin.copy_ #[123, 123] 3 #[.slice (some ⟨w.heap.size, 0, none⟩) 0 cs.size, .slice none 0 0]).run prog W = .ok (goInt 0) W :=
    fun W => run_copy_none W 123 123 3 5 _ _ 0 cs.size 0 0 underlying123 b55_size rfl
  clear hw
  have mixed := Go.Checked.mixed Go.Proofs.Tryz.checked
  go_enter func216, ntmps216
  go_wp2
  have hfin := hmax (by unfold maxLen; omega)
  go_region_o
  all_goals (go_wp2; go_end0; exact ⟨rfl, cs, hle, hfin, rfl⟩)

end Go.Proofs.Tryz
end
section
namespace Go.Proofs.Tryz
open Go Go.AM Go.Lib

set_option maxHeartbeats 2000000 in
set_option maxRecDepth 1000000 in
theorem Grow_at (b n : Nat) (w : World) (hbk : w.heap[b]? = some (.cells #[.pointer none, .slice none 0 0] 125 (0, 0))) (h1 : 1 ≤ n) (hn : n ≤ 281474976710656) :
    Calls prog 191 #[.pointer (some ⟨b, 0, none⟩), .int .i64 n] w fun e w' => e = .returned (.tuple #[]) ∧ ∃ cs : Array Value, n ≤ cs.size ∧ cs.size ≤ maxLen ∧
      w' = (((w.setCell ⟨b, 0, none⟩ (.pointer (some ⟨b, 0, none⟩))).setCell ⟨b, 1, none⟩ (.slice (some ⟨w.heap.size, 0, none⟩) 0 cs.size)).alloc (.cells cs 5)).drew.drew.drew.drew := by
  have hbk1 : (w.setCell ⟨b, 0, none⟩ (.pointer (some ⟨b, 0, none⟩))).heap[b]? = some (.cells #[.pointer (some ⟨b, 0, none⟩), .slice none 0 0] 125 (0, 0)) := by
    simp [World.setCell, Array.getElem?_modify, hbk]
  have hsz1 : (w.setCell ⟨b, 0, none⟩ (.pointer (some ⟨b, 0, none⟩))).drew.heap.size = w.heap.size := by simp [World.setCell, World.drew, -World.drew_eq]
  have c1 : (w.setCell ⟨b, 0, none⟩ (.pointer (some ⟨b, 0, none⟩))).cell? ⟨b, 1, none⟩ = some (.slice none 0 0) := by rw [Lib.cell_of_heap hbk1]; rfl
  have mixed := Go.Checked.mixed Go.Proofs.Tryz.checked
  have e43 : ∀ args w, (callFunc 188 args).run prog w = .ok (.enter 188 args) w := enters_of func188 (by kernel_rfl) rfl
  have e58 : ∀ args w, (callFunc 216 args).run prog w = .ok (.enter 216 args) w := enters_of func216 (by kernel_rfl) rfl
  go_enter func191, ntmps191
  have c1' : (w.setCell ⟨b, 0, none⟩ (.pointer (some ⟨b, 0, none⟩))).drew.cell? ⟨b, 1, none⟩ = some (.slice none 0 0) := c1
  go_wp2_with (go_at_fn 188; refine (check_fresh b w (by rw [Lib.cell_of_heap hbk]; rfl) (by simp [World.shape?, hbk]) (Lib.frozen_of_heap hbk 0)).mono ?_; rintro e w' ⟨rfl, rfl⟩)
  go_region_o
  all_goals go_wp2_with (go_at_fn 216; refine (grow_at b n _ (w.setCell ⟨b, 0, none⟩ (.pointer (some ⟨b, 0, none⟩))).drew hbk1 hn).mono ?_; rintro e w' ⟨rfl, cs, h2, h3, rfl⟩)
  all_goals (go_end0; exact ⟨rfl, cs, h2, h3, rfl⟩)
end Go.Proofs.Tryz
end
section
set_option linter.unusedVariables false
set_option linter.unusedSimpArgs false
namespace Go.Proofs.Tryz
open Go Go.AM Go.Lib

theorem HRel.drew1 {E : Env} {m : Locs} {h : List Ob} {w : World} (R : HRel E m h w) : HRel E m h w.drew :=
  ⟨R.ext.trans (WExt.drew _ _), R.blk, R.inj, fun o => (R.obs o).mono (fun x u hv => hv.mono (fun o d hd => ⟨d, hd, .refl d⟩) (Nat.le_refl _) (fun b _ hb => ⟨hb, rfl⟩) (fun b c e fr h => ⟨c, fr, h, rfl⟩)) (fun _ _ _ _ => rfl), R.new, R.dle⟩

theorem arg2 {vs : Array Value} {x y : V} (h : vs.size = [x, y].length) : ∃ u v, vs = #[u, v] := by
  obtain ⟨l⟩ := vs
  match l, h with
  | [a, b], _ => exact ⟨a, b, rfl⟩

theorem HRel.cell {E : Env} {m : Locs} {h : List Ob} {w : World} (R : HRel E m h w) {o fl blk : Nat} {t : TypeId} {cs0 : List V} (ho : h.getD o .unborn = .var t cs0) (hm : m o = some (blk, 0)) (hfl : fl < cs0.length) {x : V} {u : Value}
    (h1 : u.oneCell' = true) (hv : VRel (dirOf m h) (okc E m h) w x u) :
    HRel E m (setOb h o (.var t (over cs0 fl [x]))) (w.setCell ⟨blk, fl, none⟩ u) ∧
      (∀ x' u', VRel (dirOf m h) (okc E m h) w x' u' → VRel (dirOf m (setOb h o (.var t (over cs0 fl [x])))) (okc E m (setOb h o (.var t (over cs0 fl [x])))) (w.setCell ⟨blk, fl, none⟩ u) x' u') := by
  obtain ⟨w2, hr, H, hmono⟩ := R.writeVar (P := prog) ho hm (cs := [x]) (fl := fl) (by simp; omega) (us := [u]) rfl (by simpa using h1) (fun j y v hy hu => by
    cases j with
    | zero => simp at hy hu; subst hy; subst hu; exact hv
    | succ j => simp at hy)
  obtain ⟨blk', hm', hcs⟩ := var_cells R ho
  rw [hm] at hm'
  cases hm'
  obtain ⟨u0, hc0, _, _⟩ := hcs fl cs0[fl] (List.getElem?_eq_getElem hfl)
  have hob := R.obs o
  rw [ho, hm] at hob
  obtain ⟨_, c, hb, hc, _⟩ := hob
  cases hb
  rw [Nat.zero_add] at hc0 hr
  have hf0 : w.frozen? ⟨blk, fl, none⟩ = false := Lib.frozen_of_heap hc fl
  have hr2 := run_storeCells_cells (P := prog) blk fl [u] 0 w (fun j hj => by
    have : j = 0 := by simpa using hj
    subst this; simp [hc0]) (fun j hj => by
    have : j = 0 := by simpa using hj
    subst this; simpa using hf0) (by simpa using h1)
  rw [hr] at hr2
  have hw2 : w2 = w.setCell ⟨blk, fl, none⟩ u := by
    have := (Result.ok.inj hr2).2
    simpa [World.setCells] using this
  subst hw2
  exact ⟨H, hmono⟩

theorem setCell_alloc (w : World) (a : Addr) (v : Value) (o : Obj) (h : a.block < w.heap.size) : (w.setCell a v).alloc o = (w.alloc o).setCell a v := by
  unfold World.setCell World.alloc
  simp only [World.mk.injEq, and_true, true_and]
  apply Array.ext
  · simp
  · intro i h1 h2
    simp [Array.getElem_push, Array.getElem_modify]
    split
    · rfl
    · split
      · omega
      · rfl

theorem walk55 (k : Nat) (h1 : 1 ≤ k) (hk : k ≤ 281474976710656) : QC prog 191 [.ptr 0 0 0 0, .i .i64 k] [.var 125 [.c (.pointer none), .c (.slice none 0 0)]] (.tup []) [.var 125 [.ptr 0 0 0 0, .sl 1 0 0 0], .row 5 0 []] := by
  refine ⟨FOK_of func191 rfl (by kernel_rfl), fun w vs m ok _ R hsz hv => ?_⟩
  obtain ⟨u, u2, rfl⟩ := arg2 hsz
  obtain ⟨blk, u0, u1, hm, hc, hv0, hv1⟩ := var2 R rfl
  have hself := hv 0 _ u rfl rfl
  obtain rfl := self_ptr rfl hm hself
  obtain rfl := hv0.c_inv
  obtain rfl := hv1.c_inv
  obtain rfl := (hv 1 _ u2 rfl rfl).i_inv
  refine (Grow_at blk k w hc h1 hk).mono ?_
  rintro e w' ⟨rfl, cs, h2, h3, rfl⟩
  obtain ⟨R1, M1⟩ := HRel.cell R (o := 0) (fl := 0) rfl hm (by simp) (x := .ptr 0 0 0 0) (u := .pointer (some ⟨blk, 0, none⟩)) rfl hself
  have hlt : blk < w.heap.size := (R.blk 0 blk 0 trivial hm).2
  have hs1 : (w.setCell ⟨blk, 0, none⟩ (.pointer (some ⟨blk, 0, none⟩))).heap.size = w.heap.size := by simp [World.setCell]
  rw [setCell_alloc _ _ _ _ (by rw [hs1]; exact hlt)]
  generalize hw1 : w.setCell ⟨blk, 0, none⟩ (.pointer (some ⟨blk, 0, none⟩)) = w1 at *
  have R1' : HRel _ m [.var 125 [.ptr 0 0 0 0, .c (.slice none 0 0)]] w1 := R1
  have hnew : (w1.alloc (.cells cs 5)).heap[w.heap.size]? = some (.cells cs 5) := by rw [← hs1]; exact heap_alloc_new w1 _
  obtain ⟨R2, M2⟩ := R1'.set1 (o := 1) (ob' := .row 5 0 []) (loc' := some (w.heap.size, 0)) (h' := [.var 125 [.ptr 0 0 0 0, .c (.slice none 0 0)], .row 5 0 []]) (w' := w1.alloc (.cells cs 5))
    (fun x => by rcases x with _ | _ | x <;> rfl) (WExt.alloc _ _ _) (fun d hd => by cases hd)
    (fun b off hl _ => .inr (by cases hl; exact ⟨by omega, by simp [hs1]⟩))
    (fun D' ok' _ _ => ⟨by simp, by simp [most], rfl, cs, hnew, by simp, fun i j x hx => by simp at hx⟩)
  have hm2 : (fun x => if x = 1 then some (w.heap.size, 0) else m x) 0 = some (blk, 0) := by simpa using hm
  obtain ⟨R3, _⟩ := HRel.cell R2 (o := 0) (fl := 1) rfl hm2 (by simp) (x := .sl 1 0 0 0) (u := .slice (some ⟨w.heap.size, 0, none⟩) 0 cs.size) rfl (by
    have := VRel.sl (D := dirOf (fun x => if x = 1 then some (w.heap.size, 0) else m x) [.var 125 [.ptr 0 0 0 0, .c (.slice none 0 0)], .row 5 0 []]) (w := w1.alloc (.cells cs 5))
      (ok := okc ⟨w, ownOf m [.var 125 [.c (.pointer none), .c (.slice none 0 0)]], ok, dirOf m [.var 125 [.c (.pointer none), .c (.slice none 0 0)]], []⟩ (fun x => if x = 1 then some (w.heap.size, 0) else m x) [.var 125 [.ptr 0 0 0 0, .c (.slice none 0 0)], .row 5 0 []])
      1 0 0 0 1 w.heap.size 0 cs.size cs 5 (0, 0) rfl (Nat.zero_le _) hnew (by simp)
    simpa using this)
  exact ⟨_, _, rfl, HRel.drew1 (HRel.drew1 (HRel.drew1 (HRel.drew1 R3))), .tup [] [] rfl (fun j x u hx _ => by simp at hx)⟩
end Go.Proofs.Tryz
end
section
namespace Go.Proofs
open Go.Shelf
def Tryz.laysM171_ren : Go.Shelf.Ren := ⟨fun | 171 => 100 | 243 => 165 | 246 => 205 | 283 => 224 | 284 => 225 | 285 => 226 | 286 => 227 | 129 => 230 | 317 => 229 | 318 => 231 | 319 => 232 | 320 => 233 | 337 => 234 | 338 => 235 | n => n, fun | 3 => 3 | 9 => 9 | 2 => 2 | 4 => 4 | 171 => 253 | 0 => 0 | 53 => 247 | 37 => 123 | 5 => 5 | 173 => 256 | 212 => 261 | 51 => 244 | 20 => 20 | 213 => 262 | 46 => 225 | 232 => 265 | 233 => 266 | n => n, fun | 17 => 0 | 18 => 2 | 19 => 3 | n => n⟩
theorem Tryz.laysM171 : Go.Proofs.LaysM.n171 Tryz.prog Tryz.laysM171_ren := {
  mixed := by kernel_rfl
  f129 := Tryz.func230.trans (congrArg some (by kernel_rfl))
  f171 := Tryz.func100.trans (congrArg some (by kernel_rfl))
  f243 := Tryz.func165.trans (congrArg some (by kernel_rfl))
  f246 := Tryz.func205.trans (congrArg some (by kernel_rfl))
  f283 := Tryz.func224.trans (congrArg some (by kernel_rfl))
  f284 := Tryz.func225.trans (congrArg some (by kernel_rfl))
  f285 := Tryz.func226.trans (congrArg some (by kernel_rfl))
  f286 := Tryz.func227.trans (congrArg some (by kernel_rfl))
  f317 := Tryz.func229.trans (congrArg some (by kernel_rfl))
  f318 := Tryz.func231.trans (congrArg some (by kernel_rfl))
  f319 := Tryz.func232.trans (congrArg some (by kernel_rfl))
  f320 := Tryz.func233.trans (congrArg some (by kernel_rfl))
  f337 := Tryz.func234.trans (congrArg some (by kernel_rfl))
  f338 := Tryz.func235.trans (congrArg some (by kernel_rfl))
  t0 := Tryz.underlying0
  a0 := Tryz.isAgg0
  z0 := Tryz.sizeOf0
  v0 := Tryz.zeroValue0
  t2 := Tryz.underlying2
  a2 := Tryz.isAgg2
  z2 := Tryz.sizeOf2
  v2 := Tryz.zeroValue2
  t3 := Tryz.underlying3
  a3 := Tryz.isAgg3
  z3 := Tryz.sizeOf3
  v3 := Tryz.zeroValue3
  t4 := Tryz.underlying4
  a4 := Tryz.isAgg4
  z4 := Tryz.sizeOf4
  v4 := Tryz.zeroValue4
  t5 := Tryz.underlying5
  a5 := Tryz.isAgg5
  z5 := Tryz.sizeOf5
  v5 := Tryz.zeroValue5
  t9 := Tryz.underlying9
  a9 := Tryz.isAgg9
  z9 := Tryz.sizeOf9
  v9 := Tryz.zeroValue9
  t20 := Tryz.underlying20
  a20 := Tryz.isAgg20
  z20 := Tryz.sizeOf20
  v20 := Tryz.zeroValue20
  t37 := Tryz.underlying123
  a37 := Tryz.isAgg123
  z37 := Tryz.sizeOf123
  v37 := Tryz.zeroValue123
  t46 := Tryz.underlying225
  a46 := Tryz.isAgg225
  z46 := Tryz.sizeOf225
  v46 := Tryz.zeroValue225
  t51 := Tryz.underlying244
  a51 := Tryz.isAgg244
  z51 := Tryz.sizeOf244
  v51 := Tryz.zeroValue244
  t53 := Tryz.underlying247
  a53 := Tryz.isAgg247
  z53 := Tryz.sizeOf247
  v53 := Tryz.zeroValue247
  t171 := Tryz.underlying253
  a171 := Tryz.isAgg253
  z171 := Tryz.sizeOf253
  v171 := Tryz.zeroValue253
  t173 := Tryz.underlying256
  a173 := Tryz.isAgg256
  z173 := Tryz.sizeOf256
  v173 := Tryz.zeroValue256
  t212 := Tryz.underlying261
  a212 := Tryz.isAgg261
  z212 := Tryz.sizeOf261
  v212 := Tryz.zeroValue261
  t213 := Tryz.underlying262
  a213 := Tryz.isAgg262
  z213 := Tryz.sizeOf262
  t232 := Tryz.underlying265
  a232 := Tryz.isAgg265
  z232 := Tryz.sizeOf265
  v232 := Tryz.zeroValue265
  t233 := Tryz.underlying266
  a233 := Tryz.isAgg266
  z233 := Tryz.sizeOf266
  v233 := Tryz.zeroValue266
  g17 := by kernel_rfl
  g18 := by kernel_rfl
  g19 := by kernel_rfl
  i0 := by kernel_rfl
  i2 := by kernel_rfl
  i3 := by kernel_rfl
  i4 := by kernel_rfl
  i5 := by kernel_rfl
  i9 := by kernel_rfl
  i20 := by kernel_rfl
  i37 := by kernel_rfl
  i46 := by kernel_rfl
  i51 := by kernel_rfl
  i53 := by kernel_rfl
  i171 := by kernel_rfl
  i173 := by kernel_rfl
  i212 := by kernel_rfl
  i232 := by kernel_rfl
  i233 := by kernel_rfl
  m17 := by kernel_rfl
  m18 := by kernel_rfl
  m19 := by kernel_rfl }
open Go.RowKit Go.Sort Go.Lib in
theorem Tryz.strconv_Itoa (n : Int) (h0 : -9223372036854775808 ≤ n) (h1 : n ≤ 9223372036854775807) (w : World) (htab : Lib.TabIs Tryz.prog w "internal/strconv.uint64pow10" .u64 Lib.pow10Tab) :
    Calls Tryz.prog 100 #[.int .i64 n] w fun e w' => e = .returned (.string ⟨(Lib.itoa n).toArray⟩) ∧ ∃ k os, w' = grow (w.drewN k) os := Any.strconv_Itoa Tryz.laysM171 n h0 h1 w htab
end Go.Proofs
end
section
namespace Go.Proofs.Tryz
open Go Go.AM Go.Lib

theorem WExt.grown (S : Nat → Prop) (w : World) (k : Nat) (os : Array Obj) : WExt S w (Go.Sort.grow (w.drewN k) os) := by
  have hold : ∀ b, b < w.heap.size → (Go.Sort.grow (w.drewN k) os).heap[b]? = w.heap[b]? := fun b hb => by
    simp [Go.Sort.grow, World.drewN, Array.getElem?_append, hb]
  exact ⟨rfl, rfl, rfl, by simp [Go.Sort.grow, World.drewN], fun b hb _ => hold b hb, fun b c e fr h => ⟨c, fr, by rw [hold b (Array.getElem?_eq_some_iff.1 h).1]; exact h, rfl⟩⟩

def inI64 (z : Int) : Prop := -9223372036854775808 ≤ z ∧ z ≤ 9223372036854775807

theorem walkIt (z : Int) (hz : inI64 z) : QC prog 100 [.i .i64 z] [] (.s (Lib.itoa z)) [] := by
  refine ⟨FOK_of func100 rfl (by kernel_rfl), fun w vs m ok hG R hsz hv => ?_⟩
  obtain ⟨u, rfl⟩ := arg1 hsz
  obtain rfl := (hv 0 _ u rfl rfl).i_inv
  refine (Tryz.strconv_Itoa z hz.1 hz.2 w (hG _ (List.mem_singleton.2 rfl)).1).mono ?_
  rintro e w' ⟨rfl, k, os, rfl⟩
  exact ⟨_, m, rfl, HRel.allGone R rfl (by simp) (WExt.grown _ _ _ _), .pure (.s ⟨(Lib.itoa z).toArray⟩)⟩
end Go.Proofs.Tryz
end
section
namespace Go.Proofs.Tryz
open Go Go.AM Go.Lib

theorem bw_lies : liesAt prog prog.depth 127 (3 / prog.cellsOf 127) 0 125 1 = true := by kernel_rfl

set_option maxHeartbeats 1000000 in
set_option maxRecDepth 100000 in
theorem check_freshW (b : Nat) (w : World) (h0 : w.cell? ⟨b, 0, none⟩ = some (.pointer none)) (hsh : w.shape? b = some (127, 3)) (hfz : w.frozen? ⟨b, 0, none⟩ = false) :
    Calls prog 188 #[.pointer (some ⟨b, 0, none⟩)] w fun e w' => e = .returned (.tuple #[]) ∧ w' = w.setCell ⟨b, 0, none⟩ (.pointer (some ⟨b, 0, none⟩)) := by
  obtain ⟨j, hj, hjs⟩ := Option.map_eq_some_iff.1 b43_size
  go_enter func188, ntmps188
  go_wp2
  rw [Lib.run_to_unsafe w ⟨b, 0, none⟩ underlying122 underlying242 hj (by rw [hjs]; decide) hsh (Nat.zero_lt_succ 2)]
  simp only [Result.andThen]
  rw [Oper.upon_value]
  go_wp2
  rw [run_callFunc_extern func212 (by kernel_rfl) (by kernel_rfl) (by kernel_rfl) (e := Extern.AbiNoEscape.same) (by kernel_rfl)]
  rw [Lib.run_noEscape]
  simp only [Result.andThen]
  rw [Oper.upon_value]
  go_wp2
  rw [Lib.run_from_unsafe w ⟨b, 0, none⟩ underlying242 underlying122 hj hsh bw_lies]
  simp only [Result.andThen]
  rw [Oper.upon_value]
  go_wp2
  go_end0
  exact ⟨rfl, rfl⟩

theorem varW {E : Env} {m : Locs} {objs : List Ob} {w : World} {p v v0 : V} (R : HRel E m objs w) (ho : objs.getD 0 .unborn = .var 127 [p, v, v0]) :
    ∃ blk c, m 0 = some (blk, 0) ∧ w.heap[blk]? = some (.cells c 127 (0, 0)) ∧ c.size = 3 ∧ (∃ u0, c[0]? = some u0 ∧ VRel (dirOf m objs) (okc E m objs) w p u0) ∧ ∃ u1, c[1]? = some u1 ∧ VRel (dirOf m objs) (okc E m objs) w v u1 := by
  have hob := R.obs 0
  rw [ho] at hob
  obtain ⟨blk, c, hm, hc, hsz, _, hcs⟩ := hob
  obtain ⟨u0, h1, _, h2⟩ := hcs 0 p rfl
  obtain ⟨u1, h3, _, h4⟩ := hcs 1 v rfl
  exact ⟨blk, c, hm, hc, hsz, ⟨u0, h1, h2⟩, u1, h3, h4⟩

theorem self_ptrW {E : Env} {m : Locs} {objs : List Ob} {w : World} {cs : List V} {blk fl : Nat} {u : Value} (ho : objs.getD 0 .unborn = .var 127 cs) (hm : m 0 = some (blk, 0)) (hv : VRel (dirOf m objs) (okc E m objs) w (.ptr 0 0 0 fl) u) : u = .pointer (some ⟨blk, fl, none⟩) := by
  have := var_ptr ho hm hv
  rwa [Nat.zero_add] at this

theorem walk43uW (v v0 : V) (rest : List Ob) : QC prog 188 [.ptr 0 0 0 0] (.var 127 [.ptr 0 0 0 0, v, v0] :: rest) (.tup []) (.var 127 [.ptr 0 0 0 0, v, v0] :: rest) := by
  refine ⟨FOK_of func188 rfl (by kernel_rfl), fun w vs m ok _ R hsz hv => ?_⟩
  obtain ⟨u, rfl⟩ := arg1 hsz
  obtain ⟨blk, c, hm, hc, hcs, ⟨u0, h0, h0'⟩, u1, h1, h1'⟩ := varW R rfl
  obtain rfl := self_ptrW rfl hm (hv 0 _ u rfl rfl)
  obtain rfl := self_ptrW rfl hm h0'
  refine (check_used blk w (by rw [Lib.cell_of_heap hc]; exact h0)).mono ?_
  rintro e w' ⟨rfl, rfl⟩
  exact ⟨_, m, rfl, R, .tup [] [] rfl (fun j x u hx _ => by simp at hx)⟩

theorem walk43nW (v v0 : V) (rest : List Ob) : QC prog 188 [.ptr 0 0 0 0] (.var 127 [.c (.pointer none), v, v0] :: rest) (.tup []) (.var 127 [.ptr 0 0 0 0, v, v0] :: rest) := by
  refine ⟨FOK_of func188 rfl (by kernel_rfl), fun w vs m ok _ R hsz hv => ?_⟩
  obtain ⟨u, rfl⟩ := arg1 hsz
  obtain ⟨blk, c, hm, hc, hcs, ⟨u0, h0, h0'⟩, u1, h1, h1'⟩ := varW R rfl
  have hself := hv 0 _ u rfl rfl
  obtain rfl := self_ptrW rfl hm hself
  obtain rfl := h0'.c_inv
  have hc0 : w.cell? ⟨blk, 0, none⟩ = some (.pointer none) := by rw [Lib.cell_of_heap hc]; exact h0
  have hf0 : w.frozen? ⟨blk, 0, none⟩ = false := Lib.frozen_of_heap hc 0
  refine (check_freshW blk w hc0 (by simp [World.shape?, hc, hcs]) hf0).mono ?_
  rintro e w' ⟨rfl, rfl⟩
  obtain ⟨H, _⟩ := HRel.cell R (o := 0) (fl := 0) rfl hm (by simp) (x := .ptr 0 0 0 0) (u := .pointer (some ⟨blk, 0, none⟩)) rfl hself
  exact ⟨_, m, rfl, H, .tup [] [] rfl (fun j x u hx _ => by simp at hx)⟩

set_option maxHeartbeats 2000000 in
set_option maxRecDepth 100000 in
theorem string_atW (b g cap : Nat) (c : Array Value) (l : List UInt8) (w : World) (hb1 : w.cell? ⟨b, 1, none⟩ = some (.slice (some ⟨g, 0, none⟩) l.length cap)) (h0 : l ≠ [])
    (hg : w.heap[g]? = some (.cells c 5 (0, 0))) (hn : l.length ≤ c.size) (hcap : l.length ≤ cap) (h63 : l.length ≤ 9223372036854775807) (hcs : ∀ (j : Nat) (x : UInt8), l[j]? = some x → c[j]? = some (Value.int .u8 x.toNat)) :
    Calls prog 77 #[.pointer (some ⟨b, 0, none⟩)] w fun e w' => e = .returned (.string ⟨l.toArray⟩) ∧ w' = w.drew.freeze ⟨g, 0, none⟩ l.length := by
  have hl0 : l.length ≠ 0 := by simpa using h0
  have c1 : w.drew.cell? ⟨b, 1, none⟩ = some (.slice (some ⟨g, 0, none⟩) l.length cap) := hb1
  have hSD : (Builtin.unsafeSliceData_ #[123] 189 #[.slice (some ⟨g, 0, none⟩) l.length cap]).run prog w.drew = .ok (.pointer (some ⟨g, 0, none⟩)) w.drew :=
    Lib.run_unsafeSliceData_row _ _ _ _ _ _ (by omega)
  have hg' : w.drew.heap[g]? = some (.cells c 5 (0, 0)) := hg
  have hUS : (Builtin.unsafeString_ #[189, 3] 9 #[.pointer (some ⟨g, 0, none⟩), .int .i64 l.length]).run prog w.drew = .ok (.string ⟨l.toArray⟩) (w.drew.freeze ⟨g, 0, none⟩ l.length) := by
    refine Lib.run_unsafeString_row w.drew 189 3 9 5 underlying189 b35_cells g c.size (by simp [World.shape?, hg']) l h0 hn h63 ?_
    intro j x hx
    rw [show (⟨g, 0, none⟩ : Addr).add j = ⟨g, 0 + j, none⟩ by unfold Addr.add; split <;> simp_all]
    rw [Lib.cell_of_heap hg', Nat.zero_add]
    exact hcs j x hx
  have mixed := Go.Checked.mixed Go.Proofs.Tryz.checked
  go_enter func77, ntmps77
  go_wp2
  go_region_o
  all_goals (go_wp2; go_ret; exact ⟨rfl, rfl⟩)

set_option maxHeartbeats 2000000 in
set_option maxRecDepth 100000 in
theorem string_nilW (b : Nat) (w : World) (hb1 : w.cell? ⟨b, 1, none⟩ = some (.slice none 0 0)) :
    Calls prog 77 #[.pointer (some ⟨b, 0, none⟩)] w fun e w' => e = .returned (.string ⟨#[]⟩) ∧ w' = w.drew := by
  have hUS : ∀ W : World, (Builtin.unsafeString_ #[189, 3] 9 #[.pointer none, .int .i64 0]).run prog W = .ok (.string .empty) W := fun W => Lib.run_unsafeString_none W _ _ _ none
  have c1 : w.drew.cell? ⟨b, 1, none⟩ = some (.slice none 0 0) := hb1
  have hSD : (Builtin.unsafeSliceData_ #[123] 189 #[.slice none 0 0]).run prog w.drew = .ok (.pointer none) w.drew := rfl
  have mixed := Go.Checked.mixed Go.Proofs.Tryz.checked
  go_enter func77, ntmps77
  go_wp2
  go_region_o
  all_goals (go_wp2; go_ret; exact ⟨rfl, rfl⟩)

theorem walk35nW (p v0 : V) : QC prog 77 [.ptr 0 0 0 0] [.var 127 [p, .c (.slice none 0 0), v0]] (.s []) [.gone] := by
  refine ⟨FOK_of func77 rfl (by kernel_rfl), fun w vs m ok _ R hsz hv => ?_⟩
  obtain ⟨u, rfl⟩ := arg1 hsz
  obtain ⟨blk, c, hm, hc, hcs, ⟨u0, h0, h0'⟩, u1, h1, h1'⟩ := varW R rfl
  obtain rfl := self_ptrW rfl hm (hv 0 _ u rfl rfl)
  obtain rfl := h1'.c_inv
  refine (string_nilW blk w (by rw [Lib.cell_of_heap hc]; exact h1)).mono ?_
  rintro e w' ⟨rfl, rfl⟩
  exact ⟨_, m, rfl, HRel.allGone R rfl (by simp) (WExt.drew _ _), .str []⟩

theorem walk35rW (ep : Nat) (l : List UInt8) (hl : l ≠ []) (p v0 : V) : QC prog 77 [.ptr 0 0 0 0] [.var 127 [p, .sl 1 ep 0 l.length, v0], .row 5 ep (l.map byteV)] (.s l) [.gone, .gone] := by
  refine ⟨FOK_of func77 rfl (by kernel_rfl), fun w vs m ok _ R hsz hv => ?_⟩
  obtain ⟨u, rfl⟩ := arg1 hsz
  obtain ⟨blk, cw, hm, hc, hcsz, ⟨u0, h0, h0'⟩, u1, h1, h1'⟩ := varW R rfl
  obtain rfl := self_ptrW rfl hm (hv 0 _ u rfl rfl)
  have hlen : l.length ≠ 0 := by simpa using hl
  have hob : OKo _ _ w (m 1) (.row 5 ep (l.map byteV)) := R.obs 1
  have hD1 : dirOf m [Ob.var 127 [p, V.sl 1 ep 0 l.length, v0], Ob.row 5 ep (l.map byteV)] 1 = some (.arr ep 1 (m 1)) := rfl
  obtain ⟨g, o0, cap, hm1, rfl, hcap⟩ := sl_at h1' hlen hD1
  rw [hm1] at hob
  obtain ⟨_, hmost, rfl, c, hcg, hsz2, hcs⟩ := hob
  rw [List.length_map] at hmost hsz2
  have hcs' : ∀ (j : Nat) (x : UInt8), l[j]? = some x → c[j]? = some (Value.int .u8 x.toNat) := by
    intro j x hx
    obtain ⟨u, h2, _, h3⟩ := hcs j 0 (.i .u8 (x.toNat : Int)) (by rw [List.getElem?_map, hx]; rfl)
    rw [Nat.zero_add, Nat.mul_one, Nat.add_zero] at h2
    rw [h2, h3.i_inv]
  have hb1 : w.cell? ⟨blk, 1, none⟩ = some (.slice (some ⟨g, 0, none⟩) l.length cap) := by
    rw [Lib.cell_of_heap hc]; simpa using h1
  refine (string_atW blk g cap c l w hb1 hl hcg (by omega) hcap (by unfold most at hmost; exact hmost) hcs').mono ?_
  rintro e w' ⟨rfl, rfl⟩
  refine ⟨_, m, rfl, HRel.allGone R rfl (by simp) ((WExt.drew _ w).trans (WExt.freeze _ _ _ ?_)), .str l⟩
  exact ⟨1, 0, trivial, hm1⟩
end Go.Proofs.Tryz
end
section
namespace Go.Proofs.Tryz
open Go Go.AM
attribute [local simp] wpG_op wpG_nil contG_some wpG_guard guardG_v guardG_o guardG_tup gval pureOp stepG_if isPick pickG_pick pickB_b pickOK isCall step_move step_assign step_alloc step_box boxV_some step_load step_store step_binOp step_unOp step_fieldAddr faV step_indexAddr ixA_slc ixA_arr step_extract extV_tup step_nilCheck ncV_ptr ncV_rp ncV_fn ncV_mp step_build buildV step_buildSlice bsV step_index ixV_arr ixV_str step_append apB step_makeSlice msV_i step_makeFunc over step_len step_makeMap mmV step_mapUpdate step_insert muA_map muB_mp step_lookup lkA_map lkB_mp step_slice slcV_s slcV_sl slcV_ro cutB_some slObV_arr bound_none bound_some bndV_i lenB_str lenB_ro lenB_sl lenB_nil lenB_z ld_ptr ld_rp offV_ptr offV_rp idxV_ro idxV_sl unV_not unV_neg binV_int binV_str binV_eqlb binV_neqb intOp strOp St.put updL setOb St.ev toV St.lk cellsOf AM.valOf TK.agg stv fillV places TI.zero condT_true condT_false finS resL resSlot packV ren ren1 ren0 Value.cells builtinV appendV elemsOf keepT room_of wrap_in toIdx passed Function.comp_def take_len_map lenV touchOf hid tab1 tab2 tab3 tab4 tab5 tab6 tab7 tab8 tab9 tab20 tab22 tab23 tab24 tab26 tab32 tab33 tab35 tab36 tab37 tab39 tab41 tab42 tab43 tab45 tab46 tab47 tab49 tab50 tab52 tab74 tab79 tab83 tab86 tab87 tab89 tab92 tab100 tab101 tab102 tab103 tab105 tab107 tab108 tab113 tab114 tab116 tab117 tab118 tab122 tab123 tab125 tab127 tab130 tab132 tab136 tab173 tab175 tab178 tab179 tab180 tab182 tab189 tab215 tab219 tab220 tab224 tab225 tab241 tab244 tab247 tab253 tab261 tab262 tab265 tab266 armC_eq blockC_eq bodyC_eq enumC_eq fieldC_eq fnC_eq inC_eq localC_eq mirBodyC_eq operC_eq placeC_eq rvC_eq sourceC_eq spotC_eq stepC_eq stmtC_eq structC_eq tmC_eq tyC_eq useC_eq valueC_eq variantC_eq cutL_nil cutL_junk cutL_cons ren_arr ren_gone ren_unborn ren_var ren_row step_convert cvV_i cvV_sl cvV_s cvK_slc cvE_u8 bytesOf bor1 bor2 bor3 bor4
set_option linter.unusedSimpArgs false
set_option linter.unusedVariables false
set_option maxRecDepth 10000
set_option maxHeartbeats 4000000
noncomputable section
def bytesX : List (List V) → Option (List UInt8)
  | [] => some []
  | [.i .u8 n] :: r => if 0 ≤ n ∧ n < 256 then (bytesX r).map (UInt8.ofNat n.toNat :: ·) else none
  | _ => none
theorem bytesX_ok : ∀ {es : List (List V)} {l : List UInt8}, bytesX es = some l → es = l.map byteV
  | [], l, h => by simp [bytesX] at h; subst h; rfl
  | [.i .u8 n] :: r, l, h => by
    simp only [bytesX] at h
    split at h
    · rename_i hn
      cases hr : bytesX r with
      | none => rw [hr] at h; cases h
      | some l' =>
        rw [hr] at h
        simp only [Option.map_some, Option.some.injEq] at h
        subst h
        rw [List.map_cons, ← bytesX_ok hr, byteV]
        congr 2
        rw [UInt8.toNat_ofNat']
        congr 1
        omega
    · cases h
  | [] :: _, _, h => by simp [bytesX] at h
  | (_ :: _ :: _) :: _, _, h => by simp [bytesX] at h
def ORb : FuncId → List V → List Ob → Option (V × List Ob)
  | 188, [.ptr 0 0 0 0], .var 125 [.ptr 0 0 0 0, v] :: rest => some (.tup [], .var 125 [.ptr 0 0 0 0, v] :: rest)
  | 188, [.ptr 0 0 0 0], .var 125 [.c (.pointer none), v] :: rest => some (.tup [], .var 125 [.ptr 0 0 0 0, v] :: rest)
  | 77, [.ptr 0 0 0 0], [.var 125 [_, .c (.slice none 0 0)]] => some (.s [], [.gone])
  | 77, [.ptr 0 0 0 0], [.var 125 [_, .sl 1 ep 0 n], .row 5 ep' es] => match bytesX es with
    | some (b :: l) => if ep' = ep ∧ n = l.length + 1 then some (.s (b :: l), [.gone, .gone]) else none
    | _ => none
  | 191, [.ptr 0 0 0 0, .i .i64 k], [.var 125 [.c (.pointer none), .c (.slice none 0 0)]] => if 1 ≤ k ∧ k ≤ 281474976710656 then some (.tup [], [.var 125 [.ptr 0 0 0 0, .sl 1 0 0 0], .row 5 0 []]) else none
  | _, _, _ => none
theorem ORb_ok : CallOK prog ORb := by
  intro f args objs r objs' h
  unfold ORb at h
  split at h
  · cases h; exact walk43u _ _
  · cases h; exact walk43n _ _
  · cases h; exact walk35n _
  · split at h
    · rename_i b l hb
      split at h
      · rename_i hc
        obtain ⟨rfl, rfl⟩ := hc
        cases h
        rw [bytesX_ok hb]
        exact walk35r _ (b :: l) (by simp) _
      · cases h
    · cases h
  · split at h
    · rename_i k hc
      cases h
      obtain ⟨k', rfl⟩ := Int.eq_ofNat_of_zero_le (show 0 ≤ k by omega)
      exact walk55 k' (by omega) (by omega)
    · cases h
  · cases h
def ORw : FuncId → List V → List Ob → Option (V × List Ob)
  | 188, [.ptr 0 0 0 0], .var 127 [.ptr 0 0 0 0, v, t] :: rest => some (.tup [], .var 127 [.ptr 0 0 0 0, v, t] :: rest)
  | 188, [.ptr 0 0 0 0], .var 127 [.c (.pointer none), v, t] :: rest => some (.tup [], .var 127 [.ptr 0 0 0 0, v, t] :: rest)
  | 77, [.ptr 0 0 0 0], [.var 127 [_, .c (.slice none 0 0), _]] => some (.s [], [.gone])
  | 77, [.ptr 0 0 0 0], [.var 127 [_, .sl 1 ep 0 n, _], .row 5 ep' es] => match bytesX es with
    | some (b :: l) => if ep' = ep ∧ n = l.length + 1 then some (.s (b :: l), [.gone, .gone]) else none
    | _ => none
  | 100, [.i .i64 z], [] => if -9223372036854775808 ≤ z ∧ z ≤ 9223372036854775807 then some (.s (Lib.itoa z), []) else none
  | f, args, objs => ORb f args objs
theorem ORw_ok : CallOK prog ORw := by
  intro f args objs r objs' h
  unfold ORw at h
  split at h
  · cases h; exact walk43uW _ _ _
  · cases h; exact walk43nW _ _ _
  · cases h; exact walk35nW _ _
  · split at h
    · rename_i b l hb
      split at h
      · rename_i hc
        obtain ⟨rfl, rfl⟩ := hc
        cases h
        rw [bytesX_ok hb]
        exact walk35rW _ (b :: l) (by simp) _ _
      · cases h
    · cases h
  · split at h
    · rename_i hz
      cases h
      exact walkIt _ hz
    · cases h
  · exact ORb_ok _ _ _ _ _ h
noncomputable def F_works05 : FuncId → Option Func
  | 10 => some f10
  | 14 => some f14
  | 15 => some f15
  | 16 => some f16
  | 29 => some f29
  | 30 => some f30
  | 31 => some f31
  | 32 => some f32
  | 44 => some f44
  | 45 => some f45
  | 46 => some f46
  | 47 => some f47
  | 48 => some f48
  | 49 => some f49
  | 50 => some f50
  | 51 => some f51
  | 52 => some f52
  | 53 => some f53
  | 54 => some f54
  | 55 => some f55
  | 56 => some f56
  | 57 => some f57
  | 58 => some f58
  | 59 => some f59
  | 60 => some f60
  | 61 => some f61
  | 62 => some f62
  | 63 => some f63
  | 64 => some f64
  | 65 => some f65
  | 66 => some f66
  | 67 => some f67
  | 68 => some f68
  | 69 => some f69
  | 70 => some f70
  | 71 => some f71
  | 72 => some f72
  | 73 => some f73
  | 74 => some f74
  | 75 => some f75
  | 76 => some f76
  | 77 => some f77
  | 97 => some f97
  | 98 => some f98
  | 99 => some f99
  | 100 => some f100
  | 106 => some f106
  | 107 => some f107
  | 108 => some f108
  | 109 => some f109
  | 110 => some f110
  | 111 => some f111
  | 112 => some f112
  | 113 => some f113
  | 114 => some f114
  | 115 => some f115
  | 116 => some f116
  | 117 => some f117
  | 118 => some f118
  | 119 => some f119
  | 120 => some f120
  | 121 => some f121
  | 122 => some f122
  | 123 => some f123
  | 124 => some f124
  | 125 => some f125
  | 164 => some f164
  | 165 => some f165
  | 176 => some f176
  | 177 => some f177
  | 178 => some f178
  | 179 => some f179
  | 180 => some f180
  | 181 => some f181
  | 182 => some f182
  | 183 => some f183
  | 184 => some f184
  | 185 => some f185
  | 186 => some f186
  | 187 => some f187
  | 188 => some f188
  | 189 => some f189
  | 190 => some f190
  | 191 => some f191
  | 192 => some f192
  | 193 => some f193
  | 205 => some f205
  | 208 => some f208
  | 209 => some f209
  | 210 => some f210
  | 211 => some f211
  | 212 => some f212
  | 213 => some f213
  | 214 => some f214
  | 215 => some f215
  | 216 => some f216
  | 217 => some f217
  | 224 => some f224
  | 225 => some f225
  | 226 => some f226
  | 227 => some f227
  | 228 => some f228
  | 229 => some f229
  | 230 => some f230
  | 231 => some f231
  | 232 => some f232
  | 233 => some f233
  | 234 => some f234
  | 235 => some f235
  | _ => none
theorem F_works05_ok (f : FuncId) (fn : Func) (h : F_works05 f = some fn) : prog.funcs[f]? = some fn ∧ (fn.name == "runtime.NumGoroutine") = false := by
  unfold F_works05 at h
  split at h
  · cases h; exact ⟨func10, by kernel_rfl⟩
  · cases h; exact ⟨func14, by kernel_rfl⟩
  · cases h; exact ⟨func15, by kernel_rfl⟩
  · cases h; exact ⟨func16, by kernel_rfl⟩
  · cases h; exact ⟨func29, by kernel_rfl⟩
  · cases h; exact ⟨func30, by kernel_rfl⟩
  · cases h; exact ⟨func31, by kernel_rfl⟩
  · cases h; exact ⟨func32, by kernel_rfl⟩
  · cases h; exact ⟨func44, by kernel_rfl⟩
  · cases h; exact ⟨func45, by kernel_rfl⟩
  · cases h; exact ⟨func46, by kernel_rfl⟩
  · cases h; exact ⟨func47, by kernel_rfl⟩
  · cases h; exact ⟨func48, by kernel_rfl⟩
  · cases h; exact ⟨func49, by kernel_rfl⟩
  · cases h; exact ⟨func50, by kernel_rfl⟩
  · cases h; exact ⟨func51, by kernel_rfl⟩
  · cases h; exact ⟨func52, by kernel_rfl⟩
  · cases h; exact ⟨func53, by kernel_rfl⟩
  · cases h; exact ⟨func54, by kernel_rfl⟩
  · cases h; exact ⟨func55, by kernel_rfl⟩
  · cases h; exact ⟨func56, by kernel_rfl⟩
  · cases h; exact ⟨func57, by kernel_rfl⟩
  · cases h; exact ⟨func58, by kernel_rfl⟩
  · cases h; exact ⟨func59, by kernel_rfl⟩
  · cases h; exact ⟨func60, by kernel_rfl⟩
  · cases h; exact ⟨func61, by kernel_rfl⟩
  · cases h; exact ⟨func62, by kernel_rfl⟩
  · cases h; exact ⟨func63, by kernel_rfl⟩
  · cases h; exact ⟨func64, by kernel_rfl⟩
  · cases h; exact ⟨func65, by kernel_rfl⟩
  · cases h; exact ⟨func66, by kernel_rfl⟩
  · cases h; exact ⟨func67, by kernel_rfl⟩
  · cases h; exact ⟨func68, by kernel_rfl⟩
  · cases h; exact ⟨func69, by kernel_rfl⟩
  · cases h; exact ⟨func70, by kernel_rfl⟩
  · cases h; exact ⟨func71, by kernel_rfl⟩
  · cases h; exact ⟨func72, by kernel_rfl⟩
  · cases h; exact ⟨func73, by kernel_rfl⟩
  · cases h; exact ⟨func74, by kernel_rfl⟩
  · cases h; exact ⟨func75, by kernel_rfl⟩
  · cases h; exact ⟨func76, by kernel_rfl⟩
  · cases h; exact ⟨func77, by kernel_rfl⟩
  · cases h; exact ⟨func97, by kernel_rfl⟩
  · cases h; exact ⟨func98, by kernel_rfl⟩
  · cases h; exact ⟨func99, by kernel_rfl⟩
  · cases h; exact ⟨func100, by kernel_rfl⟩
  · cases h; exact ⟨func106, by kernel_rfl⟩
  · cases h; exact ⟨func107, by kernel_rfl⟩
  · cases h; exact ⟨func108, by kernel_rfl⟩
  · cases h; exact ⟨func109, by kernel_rfl⟩
  · cases h; exact ⟨func110, by kernel_rfl⟩
  · cases h; exact ⟨func111, by kernel_rfl⟩
  · cases h; exact ⟨func112, by kernel_rfl⟩
  · cases h; exact ⟨func113, by kernel_rfl⟩
  · cases h; exact ⟨func114, by kernel_rfl⟩
  · cases h; exact ⟨func115, by kernel_rfl⟩
  · cases h; exact ⟨func116, by kernel_rfl⟩
  · cases h; exact ⟨func117, by kernel_rfl⟩
  · cases h; exact ⟨func118, by kernel_rfl⟩
  · cases h; exact ⟨func119, by kernel_rfl⟩
  · cases h; exact ⟨func120, by kernel_rfl⟩
  · cases h; exact ⟨func121, by kernel_rfl⟩
  · cases h; exact ⟨func122, by kernel_rfl⟩
  · cases h; exact ⟨func123, by kernel_rfl⟩
  · cases h; exact ⟨func124, by kernel_rfl⟩
  · cases h; exact ⟨func125, by kernel_rfl⟩
  · cases h; exact ⟨func164, by kernel_rfl⟩
  · cases h; exact ⟨func165, by kernel_rfl⟩
  · cases h; exact ⟨func176, by kernel_rfl⟩
  · cases h; exact ⟨func177, by kernel_rfl⟩
  · cases h; exact ⟨func178, by kernel_rfl⟩
  · cases h; exact ⟨func179, by kernel_rfl⟩
  · cases h; exact ⟨func180, by kernel_rfl⟩
  · cases h; exact ⟨func181, by kernel_rfl⟩
  · cases h; exact ⟨func182, by kernel_rfl⟩
  · cases h; exact ⟨func183, by kernel_rfl⟩
  · cases h; exact ⟨func184, by kernel_rfl⟩
  · cases h; exact ⟨func185, by kernel_rfl⟩
  · cases h; exact ⟨func186, by kernel_rfl⟩
  · cases h; exact ⟨func187, by kernel_rfl⟩
  · cases h; exact ⟨func188, by kernel_rfl⟩
  · cases h; exact ⟨func189, by kernel_rfl⟩
  · cases h; exact ⟨func190, by kernel_rfl⟩
  · cases h; exact ⟨func191, by kernel_rfl⟩
  · cases h; exact ⟨func192, by kernel_rfl⟩
  · cases h; exact ⟨func193, by kernel_rfl⟩
  · cases h; exact ⟨func205, by kernel_rfl⟩
  · cases h; exact ⟨func208, by kernel_rfl⟩
  · cases h; exact ⟨func209, by kernel_rfl⟩
  · cases h; exact ⟨func210, by kernel_rfl⟩
  · cases h; exact ⟨func211, by kernel_rfl⟩
  · cases h; exact ⟨func212, by kernel_rfl⟩
  · cases h; exact ⟨func213, by kernel_rfl⟩
  · cases h; exact ⟨func214, by kernel_rfl⟩
  · cases h; exact ⟨func215, by kernel_rfl⟩
  · cases h; exact ⟨func216, by kernel_rfl⟩
  · cases h; exact ⟨func217, by kernel_rfl⟩
  · cases h; exact ⟨func224, by kernel_rfl⟩
  · cases h; exact ⟨func225, by kernel_rfl⟩
  · cases h; exact ⟨func226, by kernel_rfl⟩
  · cases h; exact ⟨func227, by kernel_rfl⟩
  · cases h; exact ⟨func228, by kernel_rfl⟩
  · cases h; exact ⟨func229, by kernel_rfl⟩
  · cases h; exact ⟨func230, by kernel_rfl⟩
  · cases h; exact ⟨func231, by kernel_rfl⟩
  · cases h; exact ⟨func232, by kernel_rfl⟩
  · cases h; exact ⟨func233, by kernel_rfl⟩
  · cases h; exact ⟨func234, by kernel_rfl⟩
  · cases h; exact ⟨func235, by kernel_rfl⟩
  · cases h
theorem run_works05 : exTrue (exG tab F_works05 (fun _ => none) ORw 100 10 [] []) = true := by kernel_rfl
theorem w_works05 : QC prog 10 [] [] (.b true) [] := exG_ok tabOK mixedOK F_works05_ok (fun _ _ h => by cases h) ORw_ok 100 _ _ _ _ _ (exTrue_ok run_works05)
end
end Go.Proofs.Tryz
end
section
namespace Go.Proofs
open Go.Shelf
def Tryz.lays156_ren : Go.Shelf.Ren := ⟨fun | 156 => 123 | 165 => 191 | 166 => 120 | 169 => 77 | 240 => 188 | 241 => 216 | 276 => 212 | 277 => 228 | n => n, fun | 31 => 180 | 9 => 9 | 3 => 3 | 4 => 4 | 0 => 0 | 20 => 20 | 72 => 125 | 76 => 183 | 70 => 122 | 37 => 123 | 75 => 182 | 127 => 189 | 164 => 242 | 5 => 5 | 80 => 134 | n => n, fun | n => n⟩
theorem Tryz.lays156 : Go.Proofs.Lays.n156 Tryz.prog Tryz.lays156_ren := {
  mixed := by kernel_rfl
  f156 := Tryz.func123.trans (congrArg some (by kernel_rfl))
  f165 := Tryz.func191.trans (congrArg some (by kernel_rfl))
  f166 := Tryz.func120.trans (congrArg some (by kernel_rfl))
  f169 := Tryz.func77.trans (congrArg some (by kernel_rfl))
  f240 := Tryz.func188.trans (congrArg some (by kernel_rfl))
  f241 := Tryz.func216.trans (congrArg some (by kernel_rfl))
  f276 := Tryz.func212.trans (congrArg some (by kernel_rfl))
  f277 := Tryz.func228.trans (congrArg some (by kernel_rfl))
  t0 := Tryz.underlying0
  a0 := Tryz.isAgg0
  z0 := Tryz.sizeOf0
  v0 := Tryz.zeroValue0
  t3 := Tryz.underlying3
  a3 := Tryz.isAgg3
  z3 := Tryz.sizeOf3
  v3 := Tryz.zeroValue3
  t4 := Tryz.underlying4
  a4 := Tryz.isAgg4
  z4 := Tryz.sizeOf4
  v4 := Tryz.zeroValue4
  t9 := Tryz.underlying9
  a9 := Tryz.isAgg9
  z9 := Tryz.sizeOf9
  v9 := Tryz.zeroValue9
  t20 := Tryz.underlying20
  a20 := Tryz.isAgg20
  z20 := Tryz.sizeOf20
  v20 := Tryz.zeroValue20
  t31 := Tryz.underlying180
  a31 := Tryz.isAgg180
  z31 := Tryz.sizeOf180
  v31 := Tryz.zeroValue180
  t37 := Tryz.underlying123
  a37 := Tryz.isAgg123
  z37 := Tryz.sizeOf123
  v37 := Tryz.zeroValue123
  t70 := Tryz.underlying122
  a70 := Tryz.isAgg122
  z70 := Tryz.sizeOf122
  v70 := Tryz.zeroValue122
  t72 := Tryz.underlying125
  a72 := Tryz.isAgg125
  z72 := Tryz.sizeOf125
  v72 := Tryz.zeroValue125
  t75 := Tryz.underlying182
  a75 := Tryz.isAgg182
  z75 := Tryz.sizeOf182
  v75 := Tryz.zeroValue182
  t76 := Tryz.underlying183
  a76 := Tryz.isAgg183
  z76 := Tryz.sizeOf183
  v76 := Tryz.zeroValue183
  t127 := Tryz.underlying189
  a127 := Tryz.isAgg189
  z127 := Tryz.sizeOf189
  v127 := Tryz.zeroValue189
  t164 := Tryz.underlying242
  a164 := Tryz.isAgg242
  z164 := Tryz.sizeOf242
  v164 := Tryz.zeroValue242 }
theorem Tryz.Builder_Extra_156 : Builder.Extra Tryz.prog Tryz.lays156_ren := {
  sizeBuilder := by kernel_rfl
  liesBuilder := by kernel_rfl
  t5 := Tryz.underlying5
  a5 := Tryz.isAgg5
  z5 := Tryz.sizeOf5
  v5 := Tryz.zeroValue5
  infoByte := by kernel_rfl
  cellsByte := by kernel_rfl
  sizeByte := by kernel_rfl
  neB5 := by decide }
open Go.RowKit in
theorem Tryz.strings_Join_none (a : Option Addr) (c : Nat) (sep : ByteArray) (w : World) :
    Calls Tryz.prog 123 #[.slice a 0 c, .string sep] w fun e w' => e = .returned (.string ⟨#[]⟩) ∧ w' = w := Any.strings_Join_none Tryz.lays156 Tryz.Builder_Extra_156 a c sep w
open Go.RowKit in
theorem Tryz.strings_Join (bk o c : Nat) (xs : List ByteArray) (sep : ByteArray) (w : World) (hcells : ∀ (j : Nat) x, xs[j]? = some x → w.cell? ⟨bk, o + j, none⟩ = some (.string x)) (hbk : bk < w.heap.size) (hN : xs.length ≤ 140737488355328) (hcap : xs.length ≤ c) (hlen : (Lib.join (xs.map (·.data.toList)) sep.data.toList).length ≤ 140737488355328) :
    Calls Tryz.prog 123 #[.slice (some ⟨bk, o, none⟩) xs.length c, .string sep] w fun e w' => e = .returned (.string ⟨(Lib.join (xs.map (·.data.toList)) sep.data.toList).toArray⟩) ∧ Below w.heap.size w w' := Any.strings_Join Tryz.lays156 Tryz.Builder_Extra_156 bk o c xs sep w hcells hbk hN hcap hlen
def Tryz.lays105_ren : Go.Shelf.Ren := ⟨fun | 105 => 121 | 212 => 189 | 99 => 190 | 165 => 191 | 166 => 120 | 170 => 192 | 169 => 77 | 263 => 213 | 264 => 214 | 206 => 215 | 240 => 188 | 241 => 216 | 276 => 212 | 277 => 228 | n => n, fun | 9 => 9 | 3 => 3 | 4 => 4 | 20 => 20 | 0 => 0 | 46 => 225 | 109 => 226 | 5 => 5 | 72 => 125 | 76 => 183 | 51 => 244 | 146 => 245 | 53 => 247 | 148 => 248 | 70 => 122 | 37 => 123 | 75 => 182 | 127 => 189 | 164 => 242 | 80 => 134 | n => n, fun | n => n⟩
theorem Tryz.lays105 : Go.Proofs.Lays.n105 Tryz.prog Tryz.lays105_ren := {
  mixed := by kernel_rfl
  f99 := Tryz.func190.trans (congrArg some (by kernel_rfl))
  f105 := Tryz.func121.trans (congrArg some (by kernel_rfl))
  f165 := Tryz.func191.trans (congrArg some (by kernel_rfl))
  f166 := Tryz.func120.trans (congrArg some (by kernel_rfl))
  f169 := Tryz.func77.trans (congrArg some (by kernel_rfl))
  f170 := Tryz.func192.trans (congrArg some (by kernel_rfl))
  f206 := Tryz.func215.trans (congrArg some (by kernel_rfl))
  f212 := Tryz.func189.trans (congrArg some (by kernel_rfl))
  f240 := Tryz.func188.trans (congrArg some (by kernel_rfl))
  f241 := Tryz.func216.trans (congrArg some (by kernel_rfl))
  f263 := Tryz.func213.trans (congrArg some (by kernel_rfl))
  f264 := Tryz.func214.trans (congrArg some (by kernel_rfl))
  f276 := Tryz.func212.trans (congrArg some (by kernel_rfl))
  f277 := Tryz.func228.trans (congrArg some (by kernel_rfl))
  t0 := Tryz.underlying0
  a0 := Tryz.isAgg0
  z0 := Tryz.sizeOf0
  v0 := Tryz.zeroValue0
  t3 := Tryz.underlying3
  a3 := Tryz.isAgg3
  z3 := Tryz.sizeOf3
  v3 := Tryz.zeroValue3
  t4 := Tryz.underlying4
  a4 := Tryz.isAgg4
  z4 := Tryz.sizeOf4
  v4 := Tryz.zeroValue4
  t5 := Tryz.underlying5
  a5 := Tryz.isAgg5
  z5 := Tryz.sizeOf5
  v5 := Tryz.zeroValue5
  t9 := Tryz.underlying9
  a9 := Tryz.isAgg9
  z9 := Tryz.sizeOf9
  v9 := Tryz.zeroValue9
  t20 := Tryz.underlying20
  a20 := Tryz.isAgg20
  z20 := Tryz.sizeOf20
  v20 := Tryz.zeroValue20
  t37 := Tryz.underlying123
  a37 := Tryz.isAgg123
  z37 := Tryz.sizeOf123
  v37 := Tryz.zeroValue123
  t46 := Tryz.underlying225
  a46 := Tryz.isAgg225
  z46 := Tryz.sizeOf225
  v46 := Tryz.zeroValue225
  t51 := Tryz.underlying244
  a51 := Tryz.isAgg244
  z51 := Tryz.sizeOf244
  v51 := Tryz.zeroValue244
  t53 := Tryz.underlying247
  a53 := Tryz.isAgg247
  z53 := Tryz.sizeOf247
  v53 := Tryz.zeroValue247
  t70 := Tryz.underlying122
  a70 := Tryz.isAgg122
  z70 := Tryz.sizeOf122
  v70 := Tryz.zeroValue122
  t72 := Tryz.underlying125
  a72 := Tryz.isAgg125
  z72 := Tryz.sizeOf125
  v72 := Tryz.zeroValue125
  t75 := Tryz.underlying182
  a75 := Tryz.isAgg182
  z75 := Tryz.sizeOf182
  v75 := Tryz.zeroValue182
  t76 := Tryz.underlying183
  a76 := Tryz.isAgg183
  z76 := Tryz.sizeOf183
  v76 := Tryz.zeroValue183
  t109 := Tryz.underlying226
  a109 := Tryz.isAgg226
  z109 := Tryz.sizeOf226
  v109 := Tryz.zeroValue226
  t127 := Tryz.underlying189
  a127 := Tryz.isAgg189
  z127 := Tryz.sizeOf189
  v127 := Tryz.zeroValue189
  t146 := Tryz.underlying245
  a146 := Tryz.isAgg245
  z146 := Tryz.sizeOf245
  v146 := Tryz.zeroValue245
  t148 := Tryz.underlying248
  a148 := Tryz.isAgg248
  z148 := Tryz.sizeOf248
  v148 := Tryz.zeroValue248
  t164 := Tryz.underlying242
  a164 := Tryz.isAgg242
  z164 := Tryz.sizeOf242
  v164 := Tryz.zeroValue242 }
theorem Tryz.Builder_Extra_105 : Builder.Extra Tryz.prog Tryz.lays105_ren := {
  sizeBuilder := by kernel_rfl
  liesBuilder := by kernel_rfl
  t5 := Tryz.underlying5
  a5 := Tryz.isAgg5
  z5 := Tryz.sizeOf5
  v5 := Tryz.zeroValue5
  infoByte := by kernel_rfl
  cellsByte := by kernel_rfl
  sizeByte := by kernel_rfl
  neB5 := by decide }
open Go.RowKit Go.Lib in
theorem Tryz.strings_Repeat_main (s : ByteArray) (c : Nat) (w : World) (hc2 : 2 ≤ c) (hc : c ≤ 9223372036854775807) (hlen : s.size * c ≤ 140737488355328) (h0 : 0 < s.size) :
    Calls Tryz.prog 121 #[.string s, .int .i64 c] w fun e w' => e = .returned (.string ⟨(Lib.repeatL s.data.toList c).toArray⟩) ∧ Below w.heap.size w w' := Any.strings_Repeat_main Tryz.lays105 Tryz.Builder_Extra_105 s c w hc2 hc hlen h0
open Go.RowKit Go.Lib in
theorem Tryz.strings_Repeat_zero (s : ByteArray) (w : World) :
    Calls Tryz.prog 121 #[.string s, .int .i64 0] w fun e w' => e = .returned (.string ⟨#[]⟩) ∧ w' = w := Any.strings_Repeat_zero Tryz.lays105 s w
open Go.RowKit Go.Lib in
theorem Tryz.strings_Repeat_one (s : ByteArray) (w : World) :
    Calls Tryz.prog 121 #[.string s, .int .i64 1] w fun e w' => e = .returned (.string s) ∧ w' = w := Any.strings_Repeat_one Tryz.lays105 s w
end Go.Proofs
end
section
namespace Go.Proofs.Tryz
open Go Go.AM Go.Lib Go.RowKit Go.ChangeShapes

theorem WExt.below (S : Nat → Prop) {w w' : World} (h : Go.RowKit.Below w.heap.size w w') : WExt S w w' :=
  ⟨h.os, h.tape, h.output, h.size, fun b hb _ => h.block b hb, fun b c e fr hb => ⟨c, fr, by rw [h.block b (Array.getElem?_eq_some_iff.1 hb).1]; exact hb, rfl⟩⟩

theorem arg2' {vs : Array Value} (h : vs.size = 2) : ∃ u v, vs = #[u, v] := by
  obtain ⟨l⟩ := vs
  match l, h with
  | [u, v], _ => exact ⟨u, v, rfl⟩

theorem w_join (xs : List (List UInt8)) (sep : List UInt8) (hN : xs.length ≤ 140737488355328) (hl : (Lib.join xs sep).length ≤ 140737488355328) :
    QC prog 123 [.ro 1 (xs.map fun z => [V.s z]), .s sep] [] (.s (Lib.join xs sep)) [] := by
  refine ⟨FOK_of func123 rfl (by kernel_rfl), fun w vs m ok hG R hsz hv => ?_⟩
  obtain ⟨u0, u1, rfl⟩ := arg2' hsz
  have h0 := hv 0 _ u0 rfl rfl
  have h1 := hv 1 _ u1 rfl rfl
  obtain ⟨sp, rfl, rfl⟩ := h1.s_inv
  have h0 : PRel (okc ⟨w, ownOf m [], ok, dirOf m [], []⟩ m []) w (.ro 1 (xs.map fun z => [V.s z])) u0 := by cases h0; assumption
  generalize he : (xs.map fun z => [V.s z]) = es at h0
  cases h0 with
  | ro0 sz a cap =>
    obtain rfl : xs = [] := by simpa using he
    refine (strings_Join_none a cap sp w).mono ?_
    rintro e w' ⟨rfl, rfl⟩
    exact ⟨_, m, rfl, HRel.allGone R rfl (by simp) (WExt.refl _ _), .pure (.s ⟨#[]⟩)⟩
  | ro sz es blk off cap us hok hlt hsz' hcap hm hc hr =>
    subst he
    have e1 : (xs.map fun x : List UInt8 => (⟨x.toArray⟩ : ByteArray)).map (·.data.toList) = xs := by simp [Function.comp_def]
    have hq := strings_Join blk off cap (xs.map fun x => (⟨x.toArray⟩ : ByteArray)) sp w (fun j x hx => by
      rw [List.getElem?_map] at hx
      obtain ⟨y, hy, rfl⟩ := Option.map_eq_some_iff.1 hx
      have hj : j < xs.length := (List.getElem?_eq_some_iff.1 hy).1
      have h3 := hc j 0 (by simpa using hj) (by omega)
      have h4 := hr j 0 (.s y) (by simp [hy])
      obtain ⟨z, hz, hzz⟩ : ∃ z : ByteArray, us j 0 = .string z ∧ y = z.data.toList := by
        generalize hu : us j 0 = uu at h4
        cases h4
        exact ⟨_, rfl, rfl⟩
      rw [hz] at h3
      rw [show off + j * 1 + 0 = off + j by omega] at h3
      rw [h3, hzz]
      ) hlt (by simpa using hN) (by simpa using hcap) (by rw [e1]; exact hl)
    rw [e1] at hq
    simp only [List.length_map] at hq ⊢
    refine hq.mono ?_
    rintro e w' ⟨rfl, hb⟩
    exact ⟨_, m, rfl, HRel.allGone R rfl (by simp) (WExt.below _ hb), .pure (.s ⟨(Lib.join xs sp.data.toList).toArray⟩)⟩

def tabsT (n : Nat) : List UInt8 := List.replicate n 9
theorem repeatL_tab : ∀ n, Lib.repeatL [9] n = tabsT n
  | 0 => rfl
  | n + 1 => by simp only [Lib.repeatL, repeatL_tab n, tabsT, List.replicate_succ]; rfl
theorem w_rep (n : Nat) (hn : n ≤ 140737488355328) : QC prog 121 [.s [9], .i .i64 (n : Int)] [] (.s (tabsT n)) [] := by
  refine ⟨FOK_of func121 rfl (by kernel_rfl), fun w vs m ok hG R hsz hv => ?_⟩
  obtain ⟨u0, u1, rfl⟩ := arg2' hsz
  have h0 := hv 0 _ u0 rfl rfl
  have h1 := hv 1 _ u1 rfl rfl
  obtain ⟨sp, rfl, hsp⟩ := h0.s_inv
  obtain rfl := h1.i_inv
  obtain rfl : sp = ⟨#[9]⟩ := by
    obtain ⟨⟨l⟩⟩ := sp
    simp at hsp
    rw [← hsp]
  match n, hn with
  | 0, _ =>
    refine (strings_Repeat_zero ⟨#[9]⟩ w).mono ?_
    rintro e w' ⟨rfl, rfl⟩
    exact ⟨_, m, rfl, HRel.allGone R rfl (by simp) (WExt.refl _ _), .pure (.s ⟨#[]⟩)⟩
  | 1, _ =>
    refine (strings_Repeat_one ⟨#[9]⟩ w).mono ?_
    rintro e w' ⟨rfl, rfl⟩
    exact ⟨_, m, rfl, HRel.allGone R rfl (by simp) (WExt.refl _ _), .pure (.s ⟨#[9]⟩)⟩
  | n + 2, hn =>
    have hq := strings_Repeat_main ⟨#[9]⟩ (n + 2) w (by omega) (by omega) (by show 1 * (n + 2) ≤ _; omega) (by decide)
    refine hq.mono ?_
    rintro e w' ⟨rfl, hb⟩
    refine ⟨_, m, rfl, HRel.allGone R rfl (by simp) (WExt.below _ hb), ?_⟩
    have h := VRel.pure (D := dirOf m []) (PRel.s (ok := okc ⟨w, ownOf m [], ok, dirOf m [], []⟩ m []) (w := w') ⟨(Lib.repeatL [9] (n + 2)).toArray⟩)
    simp only [repeatL_tab] at h ⊢
    simpa using h
end Go.Proofs.Tryz
end
