/- The abstract machine goes on: copying, comparing, maps, slicing, and calls with contracts. -/
import Derived.Laws.Slices
import Derived.Laws.Strings
import Derived.Laws.StructEq
import Derived.Laws.BytesString
import Derived.Lib.LaidTab
import Derived.Lib.ItoaNum
import Derived.Test.YtakfpmogpnoibaaGreatDoorMachA
set_option linter.unusedVariables false
set_option linter.unusedSimpArgs false
set_option linter.constructorNameAsVariable false
section
namespace Go.AM
open Go

section
variable {P : Program} {T : Tab} {E : Env} {m : Locs} {h : List Ob} {w : World}

theorem elem_lt {es : List (List V)} {sz i j : Nat} {x : V} (hel : ∀ x ∈ es, x.length = sz) (hx : (es[i]?).bind (fun l => l[j]?) = some x) : i < es.length ∧ j < sz := by
 cases hi : es[i]? with
 | none => rw [hi] at hx; cases hx
 | some l =>
  rw [hi] at hx
  refine ⟨(List.getElem?_eq_some_iff.1 hi).1, ?_⟩
  rw [← hel l (List.mem_of_getElem? hi)]
  exact (List.getElem?_eq_some_iff.1 (show l[j]? = some x from hx)).1

theorem HRel.writeRows (R : HRel E m h w) {o ep sz p blk off : Nat} {es news : List (List V)} (ho : h.getD o .unborn = .arr ep sz es) (hm : m o = some (blk, off))
  (hp : p + news.length ≤ es.length) {us : List Value} (hl : us.length = news.length * sz) (hel' : ∀ x ∈ news, x.length = sz) (h1 : ∀ u ∈ us, u.oneCell' = true)
  (hv : ∀ (i j : Nat) (x : V), (news[i]?).bind (fun l => l[j]?) = some x → ∃ u, us[i * sz + j]? = some u ∧ VRel (dirOf m h) (okc E m h) w x u) :
  ∃ w', (storeCells ⟨blk, off + p * sz, none⟩ us).run P w = .ok () w' ∧ HRel E m (setOb h o (.arr ep sz (es.take p ++ news ++ es.drop (p + news.length)))) w' ∧
   (∀ x u, VRel (dirOf m h) (okc E m h) w x u → VRel (dirOf m (setOb h o (.arr ep sz (es.take p ++ news ++ es.drop (p + news.length))))) (okc E m (setOb h o (.arr ep sz (es.take p ++ news ++ es.drop (p + news.length))))) w' x u) := by
 have hob := R.obs o
 rw [ho, hm] at hob
 obtain ⟨hel, hsz, hmo, c, e, hc, hcz, hcs⟩ := hob
 have hbound : off + p * sz + us.length ≤ c.size := by
  have : (p + news.length) * sz ≤ es.length * sz := Nat.mul_le_mul_right sz hp
  rw [Nat.add_mul] at this
  omega
 have hrun := run_storeCells_at P blk (off + p * sz) e us 0 c w hc (by simpa using hbound) h1
 rw [Nat.add_zero] at hrun
 have hsize : (c.toList.take (off + p * sz) ++ us ++ c.toList.drop (off + p * sz + us.length)).toArray.size = c.size := by
  rw [List.size_toArray, splice_length _ _ _ (by simpa using hbound), Array.length_toList]
 have hS : (fun b => ∃ off, live (h.getD o .unborn) ∧ m o = some (b, off)) blk := ⟨off, by rw [ho]; trivial, hm⟩
 have hlen : (es.take p ++ news ++ es.drop (p + news.length)).length = es.length := splice_length es news p hp
 have := R.set1 (o := o) (ob' := .arr ep sz (es.take p ++ news ++ es.drop (p + news.length))) (loc' := m o) (getD_setOb h o _) (WExt.setRow hc hS _ hsize)
  (by rw [ho]; intro d hd; exact ⟨d, hd, .refl d⟩)
  (fun blk' off' hl _ => .inl ⟨by rw [ho]; trivial, off', hl⟩)
  (fun D' ok' hvv _ => by
   rw [hm]
   refine ⟨?_, hsz, by rw [hlen]; exact hmo, (c.toList.take (off + p * sz) ++ us ++ c.toList.drop (off + p * sz + us.length)).toArray, e, setRow_heap w blk c _ e (0, 0) hc, Nat.le_trans (by rw [hlen]; exact hcz) (Nat.le_of_eq hsize.symm), ?_⟩
   ·intro x hx
    rcases List.mem_append.1 hx with h2 | h2
    ·rcases List.mem_append.1 h2 with h3 | h3
     ·exact hel x (List.mem_of_mem_take h3)
     ·exact hel' x h3
    ·exact hel x (List.mem_of_mem_drop h2)
   ·intro i j x hx
    have hget : (c.toList.take (off + p * sz) ++ us ++ c.toList.drop (off + p * sz + us.length)).toArray[off + i * sz + j]? =
      if off + p * sz ≤ off + i * sz + j ∧ off + i * sz + j < off + p * sz + us.length then us[off + i * sz + j - (off + p * sz)]? else c[off + i * sz + j]? := by
     rw [List.getElem?_toArray, splice_get _ _ _ _ (by simpa using hbound)]
     split
     ·rfl
     ·simp
    rw [splice_get _ _ _ _ hp] at hx
    by_cases hi : p ≤ i ∧ i < p + news.length
    ·rw [if_pos hi] at hx
     obtain ⟨u, h2, h3⟩ := hv (i - p) j x hx
     have hlt := (List.getElem?_eq_some_iff.1 h2).1
     have hmul : p * sz + (i - p) * sz = i * sz := by rw [← Nat.add_mul, Nat.add_sub_cancel' hi.1]
     refine ⟨u, ?_, h1 _ (List.mem_of_getElem? h2), hvv _ _ h3⟩
     rw [hget, if_pos (by omega), show off + i * sz + j - (off + p * sz) = (i - p) * sz + j by omega]
     exact h2
    ·rw [if_neg hi] at hx
     obtain ⟨u, h2, h3, h4⟩ := hcs i j x hx
     obtain ⟨hil, hj⟩ := elem_lt hel hx
     refine ⟨u, ?_, h3, hvv _ _ h4⟩
     rw [hget, if_neg ?_]
     ·exact h2
     ·rintro ⟨h5, h6⟩
      rcases Nat.lt_or_ge i p with h7 | h7
      ·have : (i + 1) * sz ≤ p * sz := Nat.mul_le_mul_right sz h7
       rw [Nat.add_mul] at this
       omega
      ·have h8 : p + news.length ≤ i := by omega
       have : (p + news.length) * sz ≤ i * sz := Nat.mul_le_mul_right sz h8
       rw [Nat.add_mul] at this
       omega)
 refine ⟨_, hrun, ?_⟩
 have hm' : (fun x => if x = o then m o else m x) = m := by
  funext x
  by_cases hxo : x = o
  ·simp [hxo]
  ·simp [hxo]
 rw [hm'] at this
 exact this

theorem copy_out (hT : TOK P T) (R : HRel E m h w) {t t' ty e : TypeId} (ht : (T t).kind = .slc e) (hs : (T e).size ≠ 0) {o ep off n : Nat} {es news : List (List V)} {x : V} {u0 u : Value}
  (ho : h.getD o .unborn = .arr ep (T e).size es) (hd : VRel (dirOf m h) (okc E m h) w (.sl o ep off n) u0) (hle : off + n ≤ es.length)
  (hx : VRel (dirOf m h) (okc E m h) w x u) (hnews : elemsOf (T e).size (fun o => h.getD o .unborn) x = some news) :
  Out P E m h w (Builtin.copy_ #[t, t'] ty #[u0, u]) (.i .i64 (min news.length n : Nat)) (setOb h o (.arr ep (T e).size (es.take off ++ news.take n ++ es.drop (off + min news.length n)))) := by
 obtain ⟨us, h2⟩ := elems_sound (P := P) R hx hnews
 have key : ∀ base cap, u0 = .slice base n cap → (Builtin.copy_ #[t, t'] ty #[u0, u]).run P w = match base with
   | some a => ((storeCells a (us.take (min news.length n * (T e).size))).run P w).andThen fun _ w' => .ok (.int .i64 (min news.length n : Nat)) w'
   | none => .ok (.int .i64 (min news.length n : Nat)) w := by
  rintro base cap rfl
  have hf := h2.first (min news.length n) w (Nat.min_le_left _ _) (fun _ => rfl)
  cases base <;> simp [Builtin.copy_, run_und (hT.slc ht), run_size hT hs, h2.lenOf, goInt, show ∀ a b, Nat.min a b = min a b from fun _ _ => rfl, hf]
 have hlen : (news.take n).length = min news.length n := by rw [List.length_take, Nat.min_comm]
 cases hd with
 | pure hp => cases hp
 | sl _ _ _ _ sz2 blk o0 cap cl e2 fr hD hn hb hf =>
  rw [dir_arr ho] at hD
  simp only [Option.some.injEq, DE.arr.injEq, true_and] at hD
  obtain ⟨rfl, hm⟩ := hD
  have hrel : ∀ (i j : Nat) (x : V), ((news.take n)[i]?).bind (fun l => l[j]?) = some x → ∃ u, (us.take (min news.length n * (T e).size))[i * (T e).size + j]? = some u ∧ VRel (dirOf m h) (okc E m h) w x u := by
   intro i j x hx
   have hx' : (news[i]?).bind (fun l => l[j]?) = some x ∧ i < n := by
    rw [List.getElem?_take] at hx
    split at hx
    ·exact ⟨hx, by assumption⟩
    ·cases hx
   obtain ⟨hil, hj⟩ := elem_lt h2.el hx'.1
   obtain ⟨u, h3, h4⟩ := h2.rel i j x hx'.1
   refine ⟨u, ?_, h4⟩
   rw [List.getElem?_take, if_pos]
   ·exact h3
   ·have : (i + 1) * (T e).size ≤ min news.length n * (T e).size := Nat.mul_le_mul_right _ (by omega)
    rw [Nat.add_mul] at this
    omega
  obtain ⟨w', h3, h4, h5⟩ := R.writeRows (P := P) ho hm (p := off) (news := news.take n) (by rw [hlen]; omega) (us := us.take (min news.length n * (T e).size))
   (by
    have : min news.length n * (T e).size ≤ news.length * (T e).size := Nat.mul_le_mul_right _ (Nat.min_le_left _ _)
    rw [List.length_take, h2.len, hlen]; omega) (fun x hx => h2.el x (List.mem_of_mem_take hx)) (fun u hu => h2.one u (List.mem_of_mem_take hu)) hrel
  rw [hlen] at h4 h5
  refine ⟨_, w', m, ?_, h4, h5, .pure (.i _ _)⟩
  have := key _ _ rfl
  simp only at this
  rw [this, h3, Result.andThen_ok]
 | sl0 _ _ _ sz2 l a hD =>
  have hk := key _ _ rfl
  have he : es.take off ++ news.take 0 ++ es.drop (off + min news.length 0) = es := by simp
  have hm0 : min news.length 0 = 0 := by simp
  rw [he, hm0]
  rw [hm0] at hk
  have hso : setOb h o (.arr ep (T e).size es) = h ∨ True := .inr trivial
  have hrun : (Builtin.copy_ #[t, t'] ty #[.slice a 0 0, u]).run P w = .ok (.int .i64 0) w := by
   refine Eq.trans hk ?_
   cases a <;> simp [storeCells]
  have := R.set1 (o := o) (ob' := .arr ep (T e).size es) (loc' := m o) (w' := w) (getD_setOb h o _) (WExt.refl _ _) (by rw [ho]; intro d hd; exact ⟨d, hd, .refl d⟩)
   (fun blk' off' hl _ => .inl ⟨by rw [ho]; trivial, off', hl⟩)
   (fun D' ok' hv _ => by
    have := R.obs o
    rw [ho] at this
    exact this.mono hv fun _ _ _ _ => rfl)
  exact ⟨_, w, _, hrun, this.1, this.2, .pure (.i _ _)⟩
 | slS _ _ _ _ _ d _ hD hst _ =>
  rw [dir_arr ho] at hD
  obtain rfl := Option.some.inj hD
  exact (stale_arr hst).elim

theorem zeroCells_get (z : Array Value) (n i j : Nat) (hi : i < n) (hj : j < z.size) : (Builtin.zeroCells z n).toList[i * z.size + j]? = z[j]? := by
 have hlt : i * z.size + j < n * z.size := by
  have : (i + 1) * z.size ≤ n * z.size := Nat.mul_le_mul_right _ hi
  rw [Nat.add_mul] at this
  omega
 unfold Builtin.zeroCells
 rw [Array.getElem?_toList, Array.getElem?_map, Array.getElem?_range, if_pos hlt, Option.map_some, Nat.mul_comm, Nat.mul_add_mod, Nat.mod_eq_of_lt hj]
 rw [Array.getElem?_eq_getElem hj]
 simp [hj]

theorem zeroCells_mem {z : Array Value} {n : Nat} {u : Value} (h : u ∈ (Builtin.zeroCells z n).toList) : u ∈ z.toList := by
 unfold Builtin.zeroCells at h
 rw [Array.toList_map, List.mem_map] at h
 obtain ⟨i, hi, rfl⟩ := h
 have hlt : i < n * z.size := by simpa using hi
 have hz : 0 < z.size := by
  rcases Nat.eq_zero_or_pos z.size with h0 | h0
  ·rw [h0] at hlt; omega
  ·exact h0
 have hm := Nat.mod_lt i hz
 simp [hm]

theorem clear_out (hT : TOK P T) (R : HRel E m h w) {t ty e : TypeId} (ht : (T t).kind = .slc e) (hs : (T e).size ≠ 0) {o ep off n : Nat} {es : List (List V)} {u0 : Value}
  (ho : h.getD o .unborn = .arr ep (T e).size es) (hd : VRel (dirOf m h) (okc E m h) w (.sl o ep off n) u0) (hle : off + n ≤ es.length) :
  Out P E m h w (Builtin.clear_ #[t] ty #[u0]) (.tup []) (setOb h o (.arr ep (T e).size (es.take off ++ List.replicate n (T e).zero ++ es.drop (off + n)))) := by
 have same : (Builtin.clear_ #[t] ty #[u0]).run P w = .ok (.tuple #[]) w → n = 0 → Out P E m h w (Builtin.clear_ #[t] ty #[u0]) (.tup []) (setOb h o (.arr ep (T e).size (es.take off ++ List.replicate n (T e).zero ++ es.drop (off + n)))) := by
  rintro hrun rfl
  have he : es.take off ++ List.replicate 0 (T e).zero ++ es.drop (off + 0) = es := by simp
  rw [he]
  have := R.set1 (o := o) (ob' := .arr ep (T e).size es) (loc' := m o) (w' := w) (getD_setOb h o _) (WExt.refl _ _) (by rw [ho]; intro d hd; exact ⟨d, hd, .refl d⟩)
   (fun blk' off' hl _ => .inl ⟨by rw [ho]; trivial, off', hl⟩)
   (fun D' ok' hv _ => by
    have := R.obs o
    rw [ho] at this
    exact this.mono hv fun _ _ _ _ => rfl)
  exact ⟨_, w, _, hrun, this.1, this.2, .tup [] [] rfl (fun j x u hx _ => by simp at hx)⟩
 have hzs : (T e).zv.cells.size = (T e).size := by
  rcases hT e with ⟨h0, _⟩ | ⟨_, _, _, _, h4, _⟩
  ·exact absurd h0 hs
  ·exact h4
 cases hd with
 | pure hp => cases hp
 | sl _ _ _ _ sz2 blk o0 cap cl e2 fr hD hn hb hf =>
  rw [dir_arr ho] at hD
  simp only [Option.some.injEq, DE.arr.injEq, true_and] at hD
  obtain ⟨rfl, hm⟩ := hD
  cases n with
  | zero => exact same (by simp [Builtin.clear_, run_und (hT.slc ht)]) rfl
  | succ n =>
   have hlen : (List.replicate (n + 1) (T e).zero).length = n + 1 := by simp
   obtain ⟨w', h3, h4, h5⟩ := R.writeRows (P := P) ho hm (p := off) (news := List.replicate (n + 1) (T e).zero) (by rw [hlen]; omega) (us := (Builtin.zeroCells (T e).zv.cells (n + 1)).toList)
    (by simp [Builtin.zeroCells, hzs]) (fun x hx => by rw [List.eq_of_mem_replicate hx]; simp [TI.zero, hzs])
    (fun u hu => hT.cells hs u (zeroCells_mem hu)) (fun i j x hx => by
     obtain ⟨hil, hj⟩ := elem_lt (sz := (T e).size) (fun x hx => by rw [List.eq_of_mem_replicate hx]; simp [TI.zero, hzs]) hx
     rw [hlen] at hil
     rw [List.getElem?_replicate, if_pos hil] at hx
     have hx' : (T e).zero[j]? = some x := hx
     unfold TI.zero at hx'
     rw [List.getElem?_map] at hx'
     obtain ⟨u, hu, rfl⟩ := Option.map_eq_some_iff.1 hx'
     refine ⟨u, ?_, toV_rel u⟩
     have := zeroCells_get (T e).zv.cells (n + 1) i j hil (by rw [hzs]; exact hj)
     rw [hzs] at this
     rw [this]
     simpa using hu)
   rw [hlen] at h4 h5
   refine ⟨_, w', m, ?_, h4, h5, .tup [] [] rfl (fun j x u hx _ => by simp at hx)⟩
   simp [Builtin.clear_, run_und (hT.slc ht), run_zero hT hs, h3]
 | sl0 _ _ _ sz2 l a hD =>
  exact same (by cases a <;> simp [Builtin.clear_, run_und (hT.slc ht)]) rfl
 | slS _ _ _ _ _ d _ hD hst _ =>
  rw [dir_arr ho] at hD
  obtain rfl := Option.some.inj hD
  exact (stale_arr hst).elim

end

end Go.AM
end
section
namespace Go.AM
open Go

section
variable {P : Program} {T : Tab} {D : Dir} {ok : Nat → Prop} {w : World}

theorem VRel.i_inv {k : IntKind} {n : Int} {u : Value} (h : VRel D ok w (.i k n) u) : u = .int k n := by
 cases h with
 | pure h => cases h; rfl

theorem VRel.b_inv {x : Bool} {u : Value} (h : VRel D ok w (.b x) u) : u = .bool x := by
 cases h with
 | pure h => cases h; rfl

theorem VRel.s_inv {x : List UInt8} {u : Value} (h : VRel D ok w (.s x) u) : ∃ y : ByteArray, u = .string y ∧ x = y.data.toList := by
 cases h with
 | pure h => cases h; exact ⟨_, rfl, rfl⟩

theorem VRel.c_inv {v u : Value} (h : VRel D ok w (.c v) u) : u = v := by
 cases h with
 | pure h => cases h; rfl

theorem VRel.fn_inv {f : FuncId} {cs : List V} {u : Value} (h : VRel D ok w (.fn f cs) u) : ∃ us : List Value, u = .func (.func f) #[] us.toArray ∧ us.length = cs.length ∧
  ∀ (j : Nat) (x : V) (u : Value), cs[j]? = some x → us[j]? = some u → VRel D ok w x u := by
 cases h with
 | pure h => cases h
 | fn _ _ us hl hr => exact ⟨us, rfl, hl, hr⟩

theorem VRel.bm_inv {f : FuncId} {cs : List V} {u : Value} (h : VRel D ok w (.bm f cs) u) : ∃ us : List Value, u = .func (.func f) us.toArray #[] ∧ us.length = cs.length ∧
  ∀ (j : Nat) (x : V) (u : Value), cs[j]? = some x → us[j]? = some u → VRel D ok w x u := by
 cases h with
 | pure h => cases h
 | bm _ _ us hl hr => exact ⟨us, rfl, hl, hr⟩

theorem VRel.agg_inv {cs : List V} {u : Value} (h : VRel D ok w (.agg cs) u) : ∃ us : List Value, u = .agg us.toArray ∧ us.length = cs.length ∧ (∀ u ∈ us, u.oneCell' = true) ∧
  ∀ (j : Nat) (x : V) (u : Value), cs[j]? = some x → us[j]? = some u → VRel D ok w x u := by
 cases h with
 | pure h => cases h
 | agg _ us hl h1 hr => exact ⟨us, rfl, hl, h1, hr⟩

theorem VRel.tup_inv {cs : List V} {u : Value} (h : VRel D ok w (.tup cs) u) : ∃ us : List Value, u = .tuple us.toArray ∧ us.length = cs.length ∧
  ∀ (j : Nat) (x : V) (u : Value), cs[j]? = some x → us[j]? = some u → VRel D ok w x u := by
 cases h with
 | pure h => cases h
 | tup _ us hl hr => exact ⟨us, rfl, hl, hr⟩

theorem VRel.str (x : List UInt8) : VRel D ok w (.s x) (.string ⟨x.toArray⟩) := by
 have := PRel.s (ok := ok) (w := w) ⟨x.toArray⟩
 simp only at this
 exact .pure (by simpa using this)

theorem int_sound {op : BinOp} {k : IntKind} {a b : Int} {v : V} (t : TypeId) (hop : op ≠ .shl ∧ op ≠ .shr) (h : intOp op k a b = some v) : ∃ u, (binOp op t (.int k a) (.int k b)).run P w = .ok u w ∧ VRel D ok w v u := by
 obtain ⟨h1, h2⟩ := hop
 have hb : ∀ o : BinOp, o = op → (binOp o t (.int k a) (.int k b)) = (match o with
  | .add | .sub | .mul => Op.intArith o k a b
  | .quo | .rem => Op.intDiv o k a b
  | .and | .or | .xor | .andNot => Op.intBits o k a b
  | _ => Op.intCmp o a b) := by
  rintro o rfl
  cases o <;> first | exact absurd rfl h1 | exact absurd rfl h2 | simp [binOp]
 rw [hb op rfl]
 cases op <;> simp only [intOp, Option.some.injEq] at h <;> first
  | exact absurd rfl h1
  | exact absurd rfl h2
  | (cases h; done)
  | skip
 case quo =>
  split at h
  ·cases h
  ·rename_i hb
   cases h
   exact ⟨_, by simp [Op.intDiv, hb], .pure (.i _ _)⟩
 case rem =>
  split at h
  ·cases h
  ·rename_i hb
   cases h
   exact ⟨_, by simp [Op.intDiv, hb], .pure (.i _ _)⟩
 case add => cases h; exact ⟨_, rfl, .pure (.i _ _)⟩
 case sub => cases h; exact ⟨_, rfl, .pure (.i _ _)⟩
 case mul => cases h; exact ⟨_, rfl, .pure (.i _ _)⟩
 case and => cases h; exact ⟨_, rfl, .pure (.i _ _)⟩
 case or => cases h; exact ⟨_, rfl, .pure (.i _ _)⟩
 case xor => cases h; exact ⟨_, rfl, .pure (.i _ _)⟩
 case andNot => cases h; exact ⟨_, rfl, .pure (.i _ _)⟩
 case lss => cases h; exact ⟨_, rfl, .pure (.b _)⟩
 case leq => cases h; exact ⟨_, rfl, .pure (.b _)⟩
 case gtr => cases h; exact ⟨_, rfl, .pure (.b _)⟩
 case geq => cases h; exact ⟨_, rfl, .pure (.b _)⟩
 case eql => cases h; exact ⟨.bool (decide (a = b)), by simp only [Op.intCmp]; show Result.ok _ w = _; rw [show (a == b) = decide (a = b) from rfl], .pure (.b _)⟩
 case neq => cases h; exact ⟨.bool (!decide (a = b)), by simp only [Op.intCmp]; show Result.ok _ w = _; rw [show (a != b) = !decide (a = b) from rfl], .pure (.b _)⟩

theorem ba_beq (a b : ByteArray) : (a.toList == b.toList) = decide (a.data.toList = b.data.toList) := by
 rw [ByteArray.toList_eq, ByteArray.toList_eq]
 exact Bool.eq_iff_iff.2 (by simp)

theorem str_sound {op : BinOp} {a b : ByteArray} {v : V} (t : TypeId) (hop : op ≠ .shl ∧ op ≠ .shr) (h : strOp op a.data.toList b.data.toList = some v) : ∃ u, (binOp op t (.string a) (.string b)).run P w = .ok u w ∧ VRel D ok w v u := by
 obtain ⟨h1, h2⟩ := hop
 have hb : ∀ o : BinOp, o = op → (binOp o t (.string a) (.string b)) = Op.stringOp o a b := by
  rintro o rfl
  cases o <;> first | exact absurd rfl h1 | exact absurd rfl h2 | simp [binOp]
 rw [hb op rfl]
 cases op <;> simp only [strOp, Option.some.injEq] at h <;> first
  | exact absurd rfl h1
  | exact absurd rfl h2
  | (cases h; done)
  | skip
 case add =>
  split at h
  ·rename_i hb
   cases h
   refine ⟨.string (a ++ b), ?_, ?_⟩
   ·have hlt : ¬ (((a.size + b.size : Nat) : Int) > IntKind.i64.max) := by
     have h3 : a.data.toList.length = a.size := by simp
     have h4 : b.data.toList.length = b.size := by simp
     rw [h3, h4] at hb
     have : IntKind.i64.max = 9223372036854775807 := by decide
     rw [this]
     omega
    simp only [Op.stringOp]
    rw [if_neg hlt]
    rfl
   ·have := PRel.s (ok := ok) (w := w) (a ++ b)
    refine .pure ?_
    simpa [ByteArray.data_append] using this
  ·cases h
 case eql => cases h; exact ⟨.bool (decide (a.data.toList = b.data.toList)), by simp only [Op.stringOp, ba_beq]; rfl, .pure (.b _)⟩
 case neq => cases h; exact ⟨.bool (!decide (a.data.toList = b.data.toList)), by simp only [Op.stringOp, ba_beq]; rfl, .pure (.b _)⟩
 case lss => cases h; exact ⟨.bool (Op.bytesLess a.data.toList b.data.toList), by simp only [Op.stringOp, ByteArray.toList_eq]; rfl, .pure (.b _)⟩
 case leq => cases h; exact ⟨.bool (Op.bytesLess a.data.toList b.data.toList || decide (a.data.toList = b.data.toList)), by simp only [Op.stringOp, ba_beq]; rw [ByteArray.toList_eq, ByteArray.toList_eq]; rfl, .pure (.b _)⟩
 case gtr => cases h; exact ⟨.bool (!(Op.bytesLess a.data.toList b.data.toList || decide (a.data.toList = b.data.toList))), by simp only [Op.stringOp, ba_beq]; rw [ByteArray.toList_eq, ByteArray.toList_eq]; rfl, .pure (.b _)⟩
 case geq => cases h; exact ⟨.bool (!Op.bytesLess a.data.toList b.data.toList), by simp only [Op.stringOp, ByteArray.toList_eq]; rfl, .pure (.b _)⟩

theorem equal_step (t : TypeId) (x y : Value) : ∃ d, Op.equal t x y = Op.equalIn (d + 1) t x y := ⟨9999, rfl⟩

theorem bool_eq_run (hT : TOK P T) {t : TypeId} (ht : (T t).kind = .bool) (a b : Bool) : (Op.equal t (.bool a) (.bool b)).run P w = .ok (a == b) w := by
 obtain ⟨d, hd⟩ := equal_step t (.bool a) (.bool b)
 rw [hd]
 simp [Op.equalIn, run_und (hT.bool ht)]

theorem str1_eq_run (hT : TOK P T) {t ft : TypeId} {z : List UInt8} (ht : (T t).kind = .str [(0, ft)]) (hz : (T t).zero = [.s z]) (hf : (T ft).kind = .string) (a b : ByteArray) (d : Nat) :
  (Op.equalIn (d + 2) t (.agg #[.string a]) (.agg #[.string b])).run P w = .ok (a.toList == b.toList) w ∧ P.eqGuardType P.depth t = false := by
 obtain ⟨fs, h1, h2⟩ := hT.str ht
 have hk : okEq P t (T t) = true := by
  rcases hT t with ⟨_, h0⟩ | ⟨_, _, _, _, _, h⟩
  ·rw [ht] at h0; cases h0
  ·exact h
 unfold okEq at hk
 rw [ht, hz] at hk
 simp only [h1, List.all_cons, List.all_nil, flatC, Bool.and_self, if_true, Bool.and_eq_true, Bool.not_eq_true'] at hk
 obtain ⟨⟨hn, hs⟩, hg⟩ := hk
 have hfo : P.fieldsOf t = fs := by simp [Program.fieldsOf, h1]
 refine ⟨?_, hg⟩
 rw [run_equalIn_struct w (d + 1) t _ _ (by rw [hfo]; exact h1) hs, hfo]
 obtain ⟨f, hl⟩ : ∃ f, fs.toList = [f] := List.length_eq_one_iff.1 (by simpa using congrArg List.length h2)
 rw [hl] at h2 hn ⊢
 ·simp only [List.map_cons, List.map_nil, List.cons.injEq, Prod.mk.injEq, and_true] at h2
  have hne : f.name ≠ "_" := by simpa using hn
  have hp : ∀ (x : ByteArray) (w : World), (part f.type #[Value.string x] f.offset).run P w = .ok (.string x) w := by
   intro x w
   rw [h2.1, h2.2]
   unfold part isAgg
   rw [Sem.run_bind, Sem.run_bind, run_und (hT.string hf)]
   rfl
  simp only [Op.eqFields, ne_eq, hne, not_false_eq_true, if_true, Sem.run_bind, hp, Result.andThen_ok]
  rw [h2.2, run_equalIn_string w d ft a b (hT.string hf)]
  cases (a.toList == b.toList) <;> rfl

theorem agg_cell {xs : List V} {us : List Value} (hul : us.length = xs.length) (hr : ∀ (j : Nat) (x : V) (u : Value), xs[j]? = some x → us[j]? = some u → VRel D ok w x u) {j : Nat} {x : V} (h : xs[j]? = some x) : ∃ u, us.toArray[j]? = some u ∧ VRel D ok w x u := by
 have hlt : j < us.length := by rw [hul]; exact (List.getElem?_eq_some_iff.1 h).1
 exact ⟨us[j], by simp [hlt], hr j x _ h (by simp [hlt])⟩

theorem part_flat {t : TypeId} {d : TypeDesc} (hu : P.underlying t = some d) (hd : (∃ k, d = .int k) ∨ d = .bool ∨ d = .string) {cs : Array Value} {i : Nat} {v : Value} (hv : cs[i]? = some v) (w : World) : (part t cs i).run P w = .ok v w := by
 unfold part isAgg
 rw [Sem.run_bind, Sem.run_bind, run_und hu]
 rcases hd with ⟨k, rfl⟩ | rfl | rfl <;> simp [hv, Result.andThen]

theorem eqFields_flat (hT : TOK P T) (d : Nat) : ∀ (fl : List Field) (i : Nat) (xs ys : List V) (r : Bool) (us vs : Array Value), (∀ f ∈ fl, f.name ≠ "_") → eqCells T i (fl.map fun f => (f.offset, f.type)) xs ys = some r →
  (∀ (j : Nat) (x : V), xs[j]? = some x → ∃ u, us[i + j]? = some u ∧ VRel D ok w x u) → (∀ (j : Nat) (x : V), ys[j]? = some x → ∃ u, vs[i + j]? = some u ∧ VRel D ok w x u) → (Op.eqFields (d + 1) us vs fl).run P w = .ok r w
 | [], i, xs, ys, r, us, vs, _, he, _, _ => by
  cases xs <;> cases ys <;> simp [eqCells] at he
  subst he
  rfl
 | f :: fl, i, xs, ys, r, us, vs, hn, he, hx, hy => by
  cases xs with
  | nil => cases ys <;> simp [eqCells] at he
  | cons x xs =>
   cases ys with
   | nil => simp [eqCells] at he
   | cons y ys =>
    simp only [List.map_cons, eqCells] at he
    split at he
    ·rename_i ho
     obtain ⟨u, hu, hxu⟩ := hx 0 x rfl
     obtain ⟨v, hv, hyv⟩ := hy 0 y rfl
     rw [Nat.add_zero] at hu hv
     have rest : ∀ r', eqCells T (i + 1) (fl.map fun f => (f.offset, f.type)) xs ys = some r' → (Op.eqFields (d + 1) us vs fl).run P w = .ok r' w := fun r' h =>
      eqFields_flat hT d fl (i + 1) xs ys r' us vs (fun g hg => hn g (by simp [hg])) h (fun j z hz => by rw [Nat.add_assoc, Nat.add_comm 1 j]; exact hx (j + 1) z hz) (fun j z hz => by rw [Nat.add_assoc, Nat.add_comm 1 j]; exact hy (j + 1) z hz)
     have hne : f.name ≠ "_" := hn f (by simp)
     have go : ∀ (dd : TypeDesc) (q : Bool), P.underlying f.type = some dd → ((∃ k, dd = .int k) ∨ dd = .bool ∨ dd = .string) → (Op.equalIn (d + 1) f.type u v).run P w = .ok q w →
       ∀ r', eqCells T (i + 1) (fl.map fun f => (f.offset, f.type)) xs ys = some r' → (Op.eqFields (d + 1) us vs (f :: fl)).run P w = .ok (q && r') w := by
      intro dd q h1 h2 h3 r' h4
      simp only [Op.eqFields, ne_eq, hne, not_false_eq_true, if_true, Sem.run_bind]
      rw [ho, part_flat h1 h2 hu, Result.andThen_ok, part_flat h1 h2 hv, Result.andThen_ok, h3, Result.andThen_ok]
      cases q with
      | false => rfl
      | true => simpa using rest r' h4
     split at he
     ·rename_i k0 k a k' b hk
      split at he
      ·rename_i hkk
       subst hkk
       obtain ⟨r', h4, rfl⟩ := Option.map_eq_some_iff.1 he
       obtain rfl := hxu.i_inv
       obtain rfl := hyv.i_inv
       exact go _ _ (hT.int hk) (.inl ⟨_, rfl⟩) (run_equalIn_int w d f.type k k0 a b (hT.int hk)) r' h4
      ·cases he
     ·rename_i a b hk
      obtain ⟨r', h4, rfl⟩ := Option.map_eq_some_iff.1 he
      obtain rfl := hxu.b_inv
      obtain rfl := hyv.b_inv
      exact go _ _ (hT.bool hk) (.inr (.inl rfl)) (run_equalIn_bool' w d f.type a b (hT.bool hk)) r' h4
     ·rename_i a b hk
      obtain ⟨r', h4, rfl⟩ := Option.map_eq_some_iff.1 he
      obtain ⟨a', rfl, rfl⟩ := hxu.s_inv
      obtain ⟨b', rfl, rfl⟩ := hyv.s_inv
      have := run_equalIn_string w d f.type a' b' (hT.string hk)
      rw [ByteArray.toList_eq, ByteArray.toList_eq, Bool.beq_eq_decide_eq] at this
      exact go _ _ (hT.string hk) (.inr (.inr rfl)) this r' h4
     ·cases he
    ·cases he

theorem flat_eq_run (hT : TOK P T) {t : TypeId} {xs ys : List V} {r : Bool} (he : eqAgg T t xs ys = some r) {us vs : Array Value} (hx : ∀ (j : Nat) (x : V), xs[j]? = some x → ∃ u, us[j]? = some u ∧ VRel D ok w x u) (hy : ∀ (j : Nat) (x : V), ys[j]? = some x → ∃ u, vs[j]? = some u ∧ VRel D ok w x u) (d : Nat) :
  (Op.equalIn (d + 2) t (.agg us) (.agg vs)).run P w = .ok r w ∧ P.eqGuardType P.depth t = false := by
 unfold eqAgg at he
 split at he
 ·rename_i fs ht
  split at he
  ·rename_i hz
   obtain ⟨fl, h1, h2⟩ := hT.str ht
   have hk : okEq P t (T t) = true := by
    rcases hT t with ⟨_, h0⟩ | ⟨_, _, _, _, _, h⟩
    ·rw [ht] at h0; cases h0
    ·exact h
   unfold okEq at hk
   rw [ht] at hk
   simp only [hz, h1, if_true, Bool.and_eq_true, Bool.not_eq_true', List.all_eq_true, decide_eq_true_eq] at hk
   obtain ⟨⟨hn, hs⟩, hg⟩ := hk
   have hfo : P.fieldsOf t = fl := by simp [Program.fieldsOf, h1]
   refine ⟨?_, hg⟩
   rw [run_equalIn_struct w (d + 1) t _ _ (by rw [hfo]; exact h1) hs, hfo]
   exact eqFields_flat hT d fl.toList 0 xs ys r us vs hn (by rw [h2]; exact he) (fun j x h => by rw [Nat.zero_add]; exact hx j x h) (fun j x h => by rw [Nat.zero_add]; exact hy j x h)
  ·cases he
 ·cases he

theorem nilPtr_inv {x : V} {u : Value} {p : Bool} (hv : VRel D ok w x u) (h : nilPtr x = some p) : ∃ a : Option Addr, u = .pointer a ∧ a.isNone = p := by
 unfold nilPtr at h
 split at h
 ·cases h; exact ⟨none, hv.c_inv, rfl⟩
 ·cases h
  cases hv with
  | pure h => cases h
  | ptr => exact ⟨_, rfl, rfl⟩
  | ptrS => exact ⟨_, rfl, rfl⟩
 ·cases h
  obtain ⟨blk, off, rfl, _⟩ := rp_cells hv
  exact ⟨_, rfl, rfl⟩
 ·cases h

theorem nilSlc_inv {x : V} {u : Value} {p : Bool} (hv : VRel D ok w x u) (h : nilSlc x = some p) : ∃ (a : Option Addr) (n c : Nat), u = .slice a n c ∧ a.isNone = p := by
 unfold nilSlc at h
 split at h
 ·cases h; exact ⟨none, 0, 0, hv.c_inv, rfl⟩
 ·cases h
  cases hv with
  | pure h => cases h; exact ⟨_, _, _, rfl, rfl⟩
 ·cases h
  cases hv with
  | pure h => cases h
  | sl => exact ⟨_, _, _, rfl, rfl⟩
  | slS _ _ _ _ _ _ a _ _ ha =>
   have := ha (by omega)
   cases a with
   | none => cases this
   | some a => exact ⟨_, _, _, rfl, rfl⟩
 ·cases h

theorem nilMap_inv {x : V} {u : Value} {p : Bool} (hv : VRel D ok w x u) (h : nilMap x = some p) : ∃ a : Option Nat, u = .map a ∧ a.isNone = p := by
 unfold nilMap at h
 split at h
 ·cases h; exact ⟨none, hv.c_inv, rfl⟩
 ·cases h
  cases hv with
  | pure h => cases h
  | mp => exact ⟨_, rfl, rfl⟩
  | mpS => exact ⟨_, rfl, rfl⟩
 ·cases h

theorem nilFun_inv {x : V} {u : Value} {p : Bool} (hv : VRel D ok w x u) (h : nilFun x = some p) : (p = true ∧ u = .nilFunc) ∨ (p = false ∧ ∃ f a c, u = .func f a c) := by
 unfold nilFun at h
 split at h
 ·cases h; exact .inl ⟨rfl, hv.c_inv⟩
 ·cases h
  obtain ⟨us, rfl, _⟩ := hv.fn_inv
  exact .inr ⟨rfl, _, _, _, rfl⟩
 ·cases h

theorem nil_eq_run (hT : TOK P T) {t : TypeId} {x y : V} {u0 u1 : Value} {p q : Bool} (hx : VRel D ok w x u0) (hy : VRel D ok w y u1) (hp : nilOf (T t).kind x = some p) (hq : nilOf (T t).kind y = some q)
  (hpq : p = true ∨ q = true) : (binOp .eql t u0 u1).run P w = .ok (.bool (p && q)) w ∧ (binOp .neq t u0 u1).run P w = .ok (.bool (!(p && q))) w ∧ u0 ≠ .nilIface ∧ (∀ c, u0 ≠ .agg c) := by
 have fin : (binOp .eql t u0 u1 = (do pure (.bool (← Op.equal t u0 u1)))) → (binOp .neq t u0 u1 = (do pure (.bool (!(← Op.equal t u0 u1))))) → (Op.equal t u0 u1).run P w = .ok (p && q) w →
   (binOp .eql t u0 u1).run P w = .ok (.bool (p && q)) w ∧ (binOp .neq t u0 u1).run P w = .ok (.bool (!(p && q))) w := by
  intro h1 h2 h3
  rw [h1, h2]
  simp [h3]
 obtain ⟨d, hd⟩ := equal_step t u0 u1
 cases hk : (T t).kind with
 | ptr e =>
  rw [hk] at hp hq
  obtain ⟨a, rfl, ha⟩ := nilPtr_inv hx hp
  obtain ⟨b, rfl, hb⟩ := nilPtr_inv hy hq
  have := fin rfl rfl (by
   rw [hd]
   cases a <;> cases b <;> simp at ha hb <;> subst ha <;> subst hb <;> simp at hpq <;> simp [Op.equalIn, run_und (hT.ptr hk)])
  exact ⟨this.1, this.2, by simp, by simp⟩
 | slc e =>
  rw [hk] at hp hq
  obtain ⟨a, _, _, rfl, ha⟩ := nilSlc_inv hx hp
  obtain ⟨b, _, _, rfl, hb⟩ := nilSlc_inv hy hq
  have := fin rfl rfl (by
   rw [hd]
   cases a <;> cases b <;> simp at ha hb <;> subst ha <;> subst hb <;> simp at hpq <;> simp [Op.equalIn, run_und (hT.slc hk)])
  exact ⟨this.1, this.2, by simp, by simp⟩
 | map k e =>
  rw [hk] at hp hq
  obtain ⟨a, rfl, ha⟩ := nilMap_inv hx hp
  obtain ⟨b, rfl, hb⟩ := nilMap_inv hy hq
  have := fin rfl rfl (by
   rw [hd]
   cases a <;> cases b <;> simp at ha hb <;> subst ha <;> subst hb <;> simp at hpq <;> simp [Op.equalIn, run_und (hT.mp hk)])
  exact ⟨this.1, this.2, by simp, by simp⟩
 | func =>
  rw [hk] at hp hq
  obtain ⟨f1, f2, f3, hf⟩ := hT.func hk
  rcases nilFun_inv hx hp with ⟨rfl, rfl⟩ | ⟨rfl, _, _, _, rfl⟩ <;> rcases nilFun_inv hy hq with ⟨rfl, rfl⟩ | ⟨rfl, _, _, _, rfl⟩ <;> simp at hpq <;>
   (have := fin rfl rfl (by rw [hd]; simp [Op.equalIn, run_und hf]); exact ⟨this.1, this.2, by simp, by simp⟩)
 | _ => rw [hk] at hp; cases hp

theorem eqGuard_pure {op : BinOp} {t : TypeId} {x y : Operand} {a b : Value} (h1 : a ≠ .nilIface) (h2 : ∀ c, a ≠ .agg c) : (eqGuard op t x y a b).run P w = .ok () w := by
 unfold eqGuard
 cases a <;> first | exact absurd rfl h1 | exact absurd rfl (h2 _) | (cases op <;> rfl)

theorem bin_sound (hT : TOK P T) {op : BinOp} {t : TypeId} {x y : V} {u0 u1 : Value} {v : V} (xo yo : Operand) (hx : VRel D ok w x u0) (hy : VRel D ok w y u1) (hb : binV T op t x y = some v) :
  ∃ u, (do eqGuard op t xo yo u0 u1; binOp op t u0 u1 : Sem Value).run P w = .ok u w ∧ VRel D ok w v u := by
 have fin : ∀ (h1 : u0 ≠ .nilIface) (h2 : ∀ c, u0 ≠ .agg c), (∃ u, (binOp op t u0 u1).run P w = .ok u w ∧ VRel D ok w v u) →
   ∃ u, (do eqGuard op t xo yo u0 u1; binOp op t u0 u1 : Sem Value).run P w = .ok u w ∧ VRel D ok w v u := by
  rintro h1 h2 ⟨u, h3, h4⟩
  exact ⟨u, by rw [Sem.run_bind, eqGuard_pure h1 h2, Result.andThen_ok, h3], h4⟩
 unfold binV at hb
 split at hb
 ·obtain rfl := hx.i_inv
  obtain rfl := hy.i_inv
  split at hb
  ·cases hb
  ·rename_i hlt
   cases hb
   exact fin (by simp) (by simp) ⟨_, by simp [binOp, Op.shift, hlt], .pure (.i _ _)⟩
 ·obtain rfl := hx.i_inv
  obtain rfl := hy.i_inv
  split at hb
  ·cases hb
  ·rename_i hlt
   cases hb
   exact fin (by simp) (by simp) ⟨_, by simp [binOp, Op.shift, hlt], .pure (.i _ _)⟩
 ·rename_i k a k' b h1 h2
  obtain rfl := hx.i_inv
  obtain rfl := hy.i_inv
  split at hb
  ·rename_i hk
   subst hk
   exact fin (by simp) (by simp) (int_sound t ⟨by rintro rfl; simp [intOp] at hb, by rintro rfl; simp [intOp] at hb⟩ hb)
  ·cases hb
 ·rename_i a b h1 h2
  obtain ⟨y1, rfl, rfl⟩ := hx.s_inv
  obtain ⟨y2, rfl, rfl⟩ := hy.s_inv
  refine fin (by simp) (by simp) (str_sound t ⟨?_, ?_⟩ hb)
  ·rintro rfl; simp [strOp] at hb
  ·rintro rfl; simp [strOp] at hb
 ·obtain rfl := hx.b_inv
  obtain rfl := hy.b_inv
  split at hb
  ·rename_i hk
   cases hb
   exact fin (by simp) (by simp) ⟨_, by simp [binOp, bool_eq_run hT hk], .pure (.b _)⟩
  ·cases hb
 ·obtain rfl := hx.b_inv
  obtain rfl := hy.b_inv
  split at hb
  ·rename_i hk
   cases hb
   exact fin (by simp) (by simp) ⟨_, by simp [binOp, bool_eq_run hT hk], .pure (.b _)⟩
  ·cases hb
 ·obtain ⟨us, rfl, hul, _, hr⟩ := hx.agg_inv
  obtain ⟨us', rfl, hul', _, hr'⟩ := hy.agg_inv
  split at hb
  ·rename_i ft z hk hz
   split at hb
   ·rename_i hk2
    cases hb
    obtain ⟨u, rfl⟩ := List.length_eq_one_iff.1 hul
    obtain ⟨u', rfl⟩ := List.length_eq_one_iff.1 hul'
    obtain ⟨y1, rfl, rfl⟩ := (hr 0 _ u rfl rfl).s_inv
    obtain ⟨y2, rfl, rfl⟩ := (hr' 0 _ u' rfl rfl).s_inv
    obtain ⟨h1, h2⟩ := str1_eq_run (w := w) hT hk hz hk2 y1 y2 9998
    refine ⟨.bool (y1.toList == y2.toList), ?_, ?_⟩
    ·rw [Sem.run_bind, run_eqGuard_agg w _ _ _ _ _ _ h2, Result.andThen_ok, run_eql_struct]
     exact (congrArg (fun r => Result.andThen r fun b w' => .ok (Value.bool b) w') h1).trans rfl
    ·rw [ByteArray.toList_eq, ByteArray.toList_eq, ← Bool.beq_eq_decide_eq]
     exact .pure (.b _)
   ·cases hb
  ·cases hb
 ·obtain ⟨us, rfl, hul, _, hr⟩ := hx.agg_inv
  obtain ⟨us', rfl, hul', _, hr'⟩ := hy.agg_inv
  split at hb
  ·rename_i ft z hk hz
   split at hb
   ·rename_i hk2
    cases hb
    obtain ⟨u, rfl⟩ := List.length_eq_one_iff.1 hul
    obtain ⟨u', rfl⟩ := List.length_eq_one_iff.1 hul'
    obtain ⟨y1, rfl, rfl⟩ := (hr 0 _ u rfl rfl).s_inv
    obtain ⟨y2, rfl, rfl⟩ := (hr' 0 _ u' rfl rfl).s_inv
    obtain ⟨h1, h2⟩ := str1_eq_run (w := w) hT hk hz hk2 y1 y2 9998
    refine ⟨.bool (!(y1.toList == y2.toList)), ?_, ?_⟩
    ·rw [Sem.run_bind, run_eqGuard_agg w _ _ _ _ _ _ h2, Result.andThen_ok, run_neq_struct]
     exact (congrArg (fun r => Result.andThen r fun b w' => .ok (Value.bool (!b)) w') h1).trans rfl
    ·rw [ByteArray.toList_eq, ByteArray.toList_eq, ← Bool.beq_eq_decide_eq]
     exact .pure (.b _)
   ·cases hb
  ·cases hb
 ·obtain ⟨us, rfl, hul, _, hr⟩ := hx.agg_inv
  obtain ⟨us', rfl, hul', _, hr'⟩ := hy.agg_inv
  obtain ⟨r, he, rfl⟩ := Option.map_eq_some_iff.1 hb
  obtain ⟨h1, h2⟩ := flat_eq_run (w := w) hT he (us := us.toArray) (vs := us'.toArray) (fun j x h => agg_cell hul hr h) (fun j x h => agg_cell hul' hr' h) 9998
  refine ⟨.bool r, ?_, .pure (.b _)⟩
  rw [Sem.run_bind, run_eqGuard_agg w _ _ _ _ _ _ h2, Result.andThen_ok, run_eql_struct]
  exact (congrArg (fun r => Result.andThen r fun b w' => .ok (Value.bool b) w') h1).trans rfl
 ·obtain ⟨us, rfl, hul, _, hr⟩ := hx.agg_inv
  obtain ⟨us', rfl, hul', _, hr'⟩ := hy.agg_inv
  obtain ⟨r, he, rfl⟩ := Option.map_eq_some_iff.1 hb
  obtain ⟨h1, h2⟩ := flat_eq_run (w := w) hT he (us := us.toArray) (vs := us'.toArray) (fun j x h => agg_cell hul hr h) (fun j x h => agg_cell hul' hr' h) 9998
  refine ⟨.bool (!r), ?_, .pure (.b _)⟩
  rw [Sem.run_bind, run_eqGuard_agg w _ _ _ _ _ _ h2, Result.andThen_ok, run_neq_struct]
  exact (congrArg (fun r => Result.andThen r fun b w' => .ok (Value.bool (!b)) w') h1).trans rfl
 ·have hfin : ∀ p q, nilOf (T t).kind x = some p → nilOf (T t).kind y = some q → (p = true ∨ q = true) → v = .b (p && q) →
      ∃ u, (do eqGuard .eql t xo yo u0 u1; binOp .eql t u0 u1 : Sem Value).run P w = .ok u w ∧ VRel D ok w v u := by
   rintro p q hp hq hpq rfl
   obtain ⟨h1, h2, h4, h5⟩ := nil_eq_run hT hx hy hp hq hpq
   exact fin h4 h5 ⟨_, h1, .pure (.b _)⟩
  split at hb
  ·rename_i r hp hq
   cases hb
   exact hfin true r hp hq (.inl rfl) (by simp)
  ·rename_i hp hq
   cases hb
   exact hfin false true hp hq (.inr rfl) (by simp)
  ·cases hb
 ·have hfin : ∀ p q, nilOf (T t).kind x = some p → nilOf (T t).kind y = some q → (p = true ∨ q = true) → v = .b (!(p && q)) →
      ∃ u, (do eqGuard .neq t xo yo u0 u1; binOp .neq t u0 u1 : Sem Value).run P w = .ok u w ∧ VRel D ok w v u := by
   rintro p q hp hq hpq rfl
   obtain ⟨h1, h2, h4, h5⟩ := nil_eq_run hT hx hy hp hq hpq
   exact fin h4 h5 ⟨_, h2, .pure (.b _)⟩
  split at hb
  ·rename_i r hp hq
   cases hb
   exact hfin true r hp hq (.inl rfl) (by simp)
  ·rename_i hp hq
   cases hb
   exact hfin false true hp hq (.inr rfl) (by simp)
  ·cases hb
 ·cases hb

theorem un_sound {op : UnOp} {x : V} {u0 : Value} {v : V} (hx : VRel D ok w x u0) (hb : unV op x = some v) : ∃ u, (Op.unary op u0).run P w = .ok u w ∧ VRel D ok w v u := by
 unfold unV at hb
 split at hb
 ·obtain rfl := hx.i_inv
  cases hb
  exact ⟨_, rfl, .pure (.i _ _)⟩
 ·obtain rfl := hx.b_inv
  cases hb
  exact ⟨_, rfl, .pure (.b _)⟩
 ·cases hb

end

end Go.AM
end
section
namespace Go.AM
open Go

section
variable {P : Program} {T : Tab} {E : Env} {m : Locs} {h : List Ob} {w : World}

theorem rp_drop {ok : Nat → Prop} {D : Dir} {cs : List V} {u : Value} (hv : VRel D ok w (.rp cs) u) (n : Nat) :
  ∃ blk off, u = .pointer (some ⟨blk, off, none⟩) ∧ VRel D ok w (.rp (cs.drop n)) (.pointer (some ⟨blk, off + n, none⟩)) := by
 cases hv with
 | pure hp =>
  cases hp with
  | rp _ blk off us hok hlt hc hr =>
   refine ⟨blk, off, rfl, .pure (.rp _ blk (off + n) (fun j => us (n + j)) hok hlt (fun j hj => ?_) (fun j x hx => ?_))⟩
   ·rw [List.length_drop] at hj
    rw [Nat.add_assoc]
    exact hc (n + j) (by omega)
   ·rw [List.getElem?_drop] at hx
    exact hr _ x hx

theorem ptr_off {D : Dir} {ok : Nat → Prop} {o ep ix fl : Nat} {u : Value} (hv : VRel D ok w (.ptr o ep ix fl) u) (n : Nat) :
  ∃ a, u = .pointer (some a) ∧ VRel D ok w (.ptr o ep ix (fl + n)) (.pointer (some (a.add n))) := by
 cases hv with
 | pure hp => cases hp
 | ptr _ _ _ _ sz blk off hD => exact ⟨_, rfl, by rw [Addr.add_none, Nat.add_assoc]; exact .ptr o ep ix (fl + n) sz blk off hD⟩
 | ptrS _ _ _ _ d a hD hs => exact ⟨a, rfl, .ptrS o ep ix (fl + n) d _ hD hs⟩

theorem field_of (hT : TOK P T) {t : TypeId} {fs : List (Nat × TypeId)} (ht : (T t).kind = .str fs) {f off : Nat} {ty : TypeId} (hf : fs[f]? = some (off, ty)) :
  ∃ (fields : Array Field) (g : Field), P.underlying t = some (.struct fields) ∧ fields[f]? = some g ∧ g.offset = off ∧ g.type = ty := by
 obtain ⟨fields, h1, rfl⟩ := hT.str ht
 simp only [List.getElem?_map, Option.map_eq_some_iff, Prod.mk.injEq] at hf
 obtain ⟨g, hg, h2, h3⟩ := hf
 exact ⟨fields, g, h1, by simpa using hg, h2, h3⟩

theorem fieldAddr_sound (hT : TOK P T) {D : Dir} {ok : Nat → Prop} {t : TypeId} {fs : List (Nat × TypeId)} (ht : (T t).kind = .str fs) {f off : Nat} {ty : TypeId} (hf : fs[f]? = some (off, ty)) (hs : (T ty).size ≠ 0)
  {x v : V} {u0 : Value} (hx : VRel D ok w x u0) (hv : offV off x = some v) : ∃ u, (Instr.fieldAt t u0 f).run P w = .ok u w ∧ VRel D ok w v u := by
 obtain ⟨fields, g, h1, h2, h3, h4⟩ := field_of hT ht hf
 have hrun : ∀ a, (Instr.fieldAt t (.pointer (some a)) f).run P w = .ok (.pointer (some (a.add off))) w := by
  intro a
  have hz := run_size (P := P) hT (t := g.type) (by rw [h4]; exact hs) w
  have hne : ¬ (T g.type).size = 0 := by rw [h4]; exact hs
  simp [Instr.fieldAt, run_und h1, h2, Instr.sureAddr, fieldPlace, hz, hne, h3]
 unfold offV at hv
 split at hv
 ·cases hv
  obtain ⟨a, rfl, h5⟩ := ptr_off hx off
  exact ⟨_, hrun a, h5⟩
 ·cases hv
  obtain ⟨blk, o', rfl, h5⟩ := rp_drop hx off
  exact ⟨_, hrun _, by rw [Addr.add_none]; exact h5⟩
 ·cases hv

theorem part_sound (hT : TOK P T) {D : Dir} {ok : Nat → Prop} {ty : TypeId} (hs : (T ty).size ≠ 0) {cs : List V} {us : List Value} (hl : us.length = cs.length) (h1 : ∀ u ∈ us, u.oneCell' = true)
  (hr : ∀ (j : Nat) (x : V) (u : Value), cs[j]? = some x → us[j]? = some u → VRel D ok w x u) {off : Nat} (hle : off + (T ty).size ≤ cs.length) {v : V} (hv : valOf (T ty) ((cs.drop off).take (T ty).size) = some v) :
  ∃ u, (part ty us.toArray off).run P w = .ok u w ∧ VRel D ok w v u := by
 unfold valOf at hv
 unfold part
 rw [Sem.run_bind, run_isAgg hT hs]
 simp only [Result.andThen_ok]
 by_cases hk : (T ty).kind.agg = true
 ·rw [if_pos hk] at hv
  cases hv
  refine ⟨.agg ((us.drop off).take (T ty).size).toArray, ?_, .agg _ _ ?_ ?_ ?_⟩
  ·simp [hk, run_size hT hs]
  ·simp [hl]
  ·exact fun u hu => h1 u (List.mem_of_mem_drop (List.mem_of_mem_take hu))
  ·intro j x u hx hu
   rw [List.getElem?_take] at hx hu
   split at hx
   ·rw [if_pos (by assumption), List.getElem?_drop] at hu
    rw [List.getElem?_drop] at hx
    exact hr _ x u hx hu
   ·cases hx
 ·rw [if_neg hk] at hv
  split at hv
  ·rename_i x hx
   cases hv
   have hx0 : cs[off]? = some v := by
    have : ((cs.drop off).take (T ty).size)[0]? = some v := by rw [hx]; rfl
    rw [List.getElem?_take, if_pos (by omega), List.getElem?_drop] at this
    simpa using this
   have hlt : off < us.length := by rw [hl]; omega
   refine ⟨us[off], ?_, hr off v _ hx0 (by simp [hlt])⟩
   simp [hk, hlt]
  ·cases hv

theorem field_sound (hT : TOK P T) {D : Dir} {ok : Nat → Prop} {t : TypeId} {fs : List (Nat × TypeId)} (ht : (T t).kind = .str fs) {f off : Nat} {ty : TypeId} (hf : fs[f]? = some (off, ty)) (hs : (T ty).size ≠ 0)
  {cs : List V} {v : V} {u0 : Value} (hx : VRel D ok w (.agg cs) u0) (hle : off + (T ty).size ≤ cs.length) (hv : valOf (T ty) ((cs.drop off).take (T ty).size) = some v) :
  ∃ u, (Instr.field t u0 f).run P w = .ok u w ∧ VRel D ok w v u := by
 obtain ⟨fields, g, h1, h2, h3, h4⟩ := field_of hT ht hf
 obtain ⟨us, rfl, hl, h5, h6⟩ := hx.agg_inv
 obtain ⟨u, h7, h8⟩ := part_sound (P := P) hT hs hl h5 h6 hle hv
 refine ⟨u, ?_, h8⟩
 simp [Instr.field, run_und h1, h2, asAgg, h3, h4, h7]

theorem index_sound (hT : TOK P T) {D : Dir} {ok : Nat → Prop} {t e : TypeId} {len : Nat} (ht : (T t).kind = .arr len e) (hs : (T e).size ≠ 0) {k : IntKind} {n : Int} (h0 : 0 ≤ n) (h1 : n < len)
  {cs : List V} {v : V} {u0 : Value} (hx : VRel D ok w (.agg cs) u0) (hle : n.toNat * (T e).size + (T e).size ≤ cs.length) (hv : valOf (T e) ((cs.drop (n.toNat * (T e).size)).take (T e).size) = some v) :
  ∃ u, (Instr.index t u0 (.int k n)).run P w = .ok u w ∧ VRel D ok w v u := by
 obtain ⟨us, rfl, hl, h5, h6⟩ := hx.agg_inv
 obtain ⟨u, h7, h8⟩ := part_sound (P := P) hT hs hl h5 h6 hle hv
 refine ⟨u, ?_, h8⟩
 simp [Instr.index, asIntOf, run_und (hT.arr ht), h0, h1, run_size hT hs, h7]

theorem indexStr_sound (hT : TOK P T) {D : Dir} {ok : Nat → Prop} {t : TypeId} (ht : (T t).kind = .string) {k : IntKind} {n : Int} (h0 : 0 ≤ n) {l : List UInt8} (h1 : n < l.length)
  {u0 : Value} (hx : VRel D ok w (.s l) u0) : ∃ u, (Instr.index t u0 (.int k n)).run P w = .ok u w ∧ VRel D ok w (.i .u8 ((l.getD n.toNat 0).toNat)) u := by
 obtain ⟨y, rfl, rfl⟩ := hx.s_inv
 have hlt : n.toNat < y.size := by
  have : y.data.toList.length = y.size := by simp
  rw [this] at h1
  omega
 refine ⟨.int .u8 (y[n.toNat].toNat), ?_, ?_⟩
 ·have hq : y[n.toNat]? = some y[n.toNat] := by simp [hlt]
  simp [Instr.index, asIntOf, run_und (hT.string ht), h0, hq]
 ·have : (y.data.toList.getD n.toNat 0).toNat = y[n.toNat].toNat := by
   have h2 : n.toNat < y.data.size := hlt
   have h3 : y.data[n.toNat]? = some y.data[n.toNat] := Array.getElem?_eq_getElem h2
   simp only [List.getD, Array.getElem?_toList, h3]
   rfl
  rw [this]
  exact .pure (.i _ _)

theorem indexAddr_sound (hT : TOK P T) (_R : HRel E m h w) {t e : TypeId} (ht : (T t).kind = .slc e) (hs : (T e).size ≠ 0) {k : IntKind} {n : Int} {x v : V} {u0 : Value} (hx : VRel (dirOf m h) (okc E m h) w x u0)
  (hv : idxV (T e).size (fun o => h.getD o .unborn) n x = some v) : ∃ u, (Instr.indexAt t u0 (.int k n)).run P w = .ok u w ∧ VRel (dirOf m h) (okc E m h) w v u := by
 have hrun : ∀ (a : Addr) (len cap : Nat), 0 ≤ n → n < len → (Instr.indexAt t (.slice (some a) len cap) (.int k n)).run P w = .ok (.pointer (some (a.add (n.toNat * (T e).size)))) w := by
  intro a len cap h0 h1
  simp [Instr.indexAt, asIntOf, run_und (hT.slc ht), h0, h1, run_size hT hs]
 unfold idxV at hv
 split at hv
 ·rename_i sz es
  split at hv
  ·rename_i hc
   obtain ⟨rfl, h0, h1⟩ := hc
   cases hv
   cases hx with
   | pure hp =>
    cases hp with
    | ro0 => simp at h1; omega
    | ro _ _ blk off cap us hok hlt hsz hcap hm hc hr =>
     refine ⟨_, hrun _ _ _ h0 h1, ?_⟩
     rw [Addr.add_none]
     have hi : n.toNat < es.length := by omega
     have hl : (es.getD n.toNat []).length = (T e).size := hsz _ (by simp [List.getD, hi])
     refine .pure (.rp _ blk _ (fun j => us n.toNat j) hok hlt (fun j hj => hc n.toNat j hi (by omega)) (fun j y hy => hr n.toNat j y ?_))
     simpa [List.getD, hi] using hy
  ·cases hv
 ·rename_i o ep off len
  dsimp only at hv
  split at hv
  ·rename_i ep' sz es ho
   split at hv
   ·rename_i hc
    obtain ⟨rfl, rfl, h0, h1⟩ := hc
    cases hv
    cases hx with
    | pure hp => cases hp
    | sl _ _ _ _ sz2 blk o0 cap cl e2 fr hD hn hb hf =>
     have hD' := hD
     rw [dir_arr ho] at hD'
     simp only [Option.some.injEq, DE.arr.injEq, true_and] at hD'
     obtain ⟨rfl, hm⟩ := hD'
     refine ⟨_, hrun _ _ _ h0 h1, ?_⟩
     rw [Addr.add_none]
     have := VRel.ptr (ok := okc E m h) (w := w) o ep' (off + n.toNat) 0 (T e).size blk o0 hD
     rwa [show o0 + (off + n.toNat) * (T e).size + 0 = o0 + off * (T e).size + n.toNat * (T e).size by rw [Nat.add_mul]; omega] at this
    | sl0 => omega
    | slS _ _ _ _ _ d _ hD hst _ =>
     rw [dir_arr ho] at hD
     obtain rfl := Option.some.inj hD
     exact (stale_arr hst).elim
   ·cases hv
  ·cases hv
 ·cases hv

theorem indexArr_sound (hT : TOK P T) {D : Dir} {ok : Nat → Prop} {t e : TypeId} {len : Nat} (ht : (T t).kind = .arr len e) (hs : (T e).size ≠ 0) {k : IntKind} {n : Int} (h0 : 0 ≤ n) (h1 : n < len)
  {x v : V} {u0 : Value} (hx : VRel D ok w x u0) (hv : offV (n.toNat * (T e).size) x = some v) : ∃ u, (Instr.indexAt t u0 (.int k n)).run P w = .ok u w ∧ VRel D ok w v u := by
 have hrun : ∀ (a : Addr), (Instr.indexAt t (.pointer (some a)) (.int k n)).run P w = .ok (.pointer (some (a.add (n.toNat * (T e).size)))) w := by
  intro a
  simp [Instr.indexAt, asIntOf, run_und (hT.arr ht), Instr.sureAddr, h0, h1, run_size hT hs]
 unfold offV at hv
 split at hv
 ·cases hv
  obtain ⟨a, rfl, h5⟩ := ptr_off hx (n.toNat * (T e).size)
  exact ⟨_, hrun a, h5⟩
 ·cases hv
  obtain ⟨blk, o', rfl, h5⟩ := rp_drop hx (n.toNat * (T e).size)
  exact ⟨_, hrun _, by rw [Addr.add_none]; exact h5⟩
 ·cases hv

theorem len_sound (hT : TOK P T) {D : Dir} {ok : Nat → Prop} {t e ty : TypeId} (ht : (T t).kind = .slc e) {tys : Array TypeId} (hty : tys[0]? = some t) {x : V} {u0 : Value} {n : Nat} (hx : VRel D ok w x u0) (hl : lenV x = some n) :
  (Builtin.len_ tys ty #[u0]).run P w = .ok (.int .i64 (n : Nat)) w := by
 unfold lenV at hl
 have slc : ∀ (a : Option Addr) (n c : Nat), (Builtin.len_ tys ty #[.slice a n c]).run P w = .ok (.int .i64 n) w := by
  rintro a n c
  simp [Builtin.len_, hty, run_und (hT.slc ht), goInt]
 split at hl
 ·cases hl
  cases hx with
  | pure hp => cases hp with
   | ro0 => exact slc _ _ _
   | ro => exact slc _ _ _
 ·cases hl
  cases hx with
  | pure hp => cases hp
  | sl => exact slc _ _ _
  | sl0 => exact slc _ _ _
  | slS => exact slc _ _ _
 ·cases hl
  obtain rfl := hx.c_inv
  exact slc _ _ _
 ·cases hl
  cases hx with
  | pure hp => cases hp; exact slc _ _ _
 ·cases hl

theorem lenStr_sound (hT : TOK P T) {D : Dir} {ok : Nat → Prop} {t ty : TypeId} (ht : (T t).kind = .string) {tys : Array TypeId} (hty : tys[0]? = some t) {l : List UInt8} {u0 : Value} (hx : VRel D ok w (.s l) u0) :
  (Builtin.len_ tys ty #[u0]).run P w = .ok (.int .i64 (l.length : Nat)) w := by
 obtain ⟨y, rfl, rfl⟩ := hx.s_inv
 simp [Builtin.len_, hty, run_und (hT.string ht), goInt]

end

end Go.AM
end
section
namespace Go.AM
open Go

section
variable {P : Program} {T : Tab} {E : Env} {m : Locs} {h : List Ob} {w : World}

theorem bound_inv {D : Dir} {ok : Nat → Prop} {ev : Operand → V} {ρ : Operand → Value} (hr : ∀ x, VRel D ok w (ev x) (ρ x)) {most dflt n : Nat} {x : Option Operand} (hb : boundOf ev most dflt x = some n) :
  (x = none ∧ n = dflt) ∨ ∃ y k a, x = some y ∧ ρ y = .int k a ∧ 0 ≤ a ∧ a ≤ most ∧ n = a.toNat := by
 unfold boundOf at hb
 split at hb
 ·cases hb; exact .inl ⟨rfl, rfl⟩
 ·rename_i y
  split at hb
  ·rename_i k a hy
   split at hb
   ·rename_i hc
    cases hb
    refine .inr ⟨y, k, a, rfl, ?_, hc.1, hc.2, rfl⟩
    have := hr y
    rw [hy] at this
    exact this.i_inv
   ·cases hb
  ·cases hb

theorem bounds_run {D : Dir} {ok : Nat → Prop} {ev : Operand → V} {ρ : Operand → Value} (hr : ∀ x, VRel D ok w (ev x) (ρ x)) (b : Bool) {len cap hh l : Nat} {lo hi : Option Operand} (hle : len ≤ cap)
  (h1 : boundOf ev len len hi = some hh) (h2 : boundOf ev hh 0 lo = some l) :
  (Instr.sliceBounds b len cap (lo.map ρ) (hi.map ρ) none).run P w = .ok (l, hh, cap) w ∧ hh ≤ len ∧ l ≤ hh := by
 rcases bound_inv hr h1 with ⟨rfl, rfl⟩ | ⟨y, k, a, rfl, hy, ha0, ha1, rfl⟩ <;>
  rcases bound_inv hr h2 with ⟨rfl, rfl⟩ | ⟨z, k', c, rfl, hz, hc0, hc1, rfl⟩
 ·exact ⟨by simp [Instr.sliceBounds], Nat.le_refl _, Nat.zero_le _⟩
 ·refine ⟨by simp [Instr.sliceBounds, hz, Instr.sliceBound, asIntOf, hc0, hc1], Nat.le_refl _, by omega⟩
 ·have : a ≤ cap := by omega
  refine ⟨by simp [Instr.sliceBounds, hy, Instr.sliceBound, asIntOf, ha0, this], by omega, Nat.zero_le _⟩
 ·have : a ≤ cap := by omega
  have hc2 : ¬ (max a 0 < c) := by omega
  refine ⟨by simp [Instr.sliceBounds, hy, hz, Instr.sliceBound, asIntOf, ha0, this, hc0, hc2], by omega, by omega⟩

theorem slcStr_sound (hT : TOK P T) {D : Dir} {ok : Nat → Prop} {ev : Operand → V} {ρ : Operand → Value} (hr : ∀ x, VRel D ok w (ev x) (ρ x)) {t : TypeId} (ht : (T t).kind = .string) {u : List UInt8} {u0 : Value} (hx : VRel D ok w (.s u) u0)
  {lo hi : Option Operand} {hh l : Nat} (h1 : boundOf ev u.length u.length hi = some hh) (h2 : boundOf ev hh 0 lo = some l) :
  ∃ r, (Instr.sliceAt t u0 (lo.map ρ) (hi.map ρ) none).run P w = .ok r w ∧ VRel D ok w (.s ((u.drop l).take (hh - l))) r := by
 obtain ⟨y, rfl, rfl⟩ := hx.s_inv
 have hl : y.data.toList.length = y.size := by simp
 rw [hl] at h1
 obtain ⟨h3, h4, h5⟩ := bounds_run (P := P) hr false (Nat.le_refl y.size) h1 h2
 refine ⟨.string (y.extract l hh), ?_, ?_⟩
 ·simp [Instr.sliceAt, Instr.slice, run_und (hT.string ht), h3]
 ·have := PRel.s (ok := ok) (w := w) (y.extract l hh)
  refine .pure ?_
  have he : (y.extract l hh).data.toList = (y.data.toList.drop l).take (hh - l) := by
   rw [ByteArray.data_extract, Array.toList_extract]
  rwa [he] at this

theorem slc_run (hT : TOK P T) {t e : TypeId} (ht : (T t).kind = .slc e) (hs : (T e).size ≠ 0) {a : Option Addr} {len cap l hh mm : Nat} {lo hi mx : Option Value} (hb : (Instr.sliceBounds true len cap lo hi mx).run P w = .ok (l, hh, mm) w) :
  (Instr.sliceAt t (.slice a len cap) lo hi mx).run P w = .ok (.slice (if mm = l then a else a.map (·.add (l * (T e).size))) (hh - l) (mm - l)) w := by
 simp [Instr.sliceAt, Instr.slice, run_und (hT.slc ht), hb, run_size hT hs]

theorem slcOwn_sound (hT : TOK P T) {ev : Operand → V} {ρ : Operand → Value} (hr : ∀ x, VRel (dirOf m h) (okc E m h) w (ev x) (ρ x)) {t e : TypeId} (ht : (T t).kind = .slc e) (hs : (T e).size ≠ 0) {o ep off n : Nat} {es : List (List V)} {u0 : Value}
  (hx : VRel (dirOf m h) (okc E m h) w (.sl o ep off n) u0) (ho : h.getD o .unborn = .arr ep (T e).size es) {lo hi : Option Operand} {hh l : Nat} (h1 : boundOf ev n n hi = some hh) (h2 : boundOf ev hh 0 lo = some l) :
  ∃ r, (Instr.sliceAt t u0 (lo.map ρ) (hi.map ρ) none).run P w = .ok r w ∧ VRel (dirOf m h) (okc E m h) w (.sl o ep (off + l) (hh - l)) r := by
 cases hx with
 | pure hp => cases hp
 | sl _ _ _ _ sz2 blk o0 cap cl e2 fr hD hn hb hf =>
  have hD' := hD
  rw [dir_arr ho] at hD'
  simp only [Option.some.injEq, DE.arr.injEq, true_and] at hD'
  obtain ⟨rfl, hm⟩ := hD'
  obtain ⟨h3, h4, h5⟩ := bounds_run (P := P) hr true hn h1 h2
  refine ⟨_, slc_run hT ht hs h3, ?_⟩
  by_cases hc : cap = l
  ·rw [if_pos hc, show hh - l = 0 by omega, show cap - l = 0 by omega]
   exact .sl0 o ep (off + l) (T e).size _ _ hD
  ·rw [if_neg hc, Option.map_some, Addr.add_none]
   have := VRel.sl (ok := okc E m h) o ep (off + l) (hh - l) (T e).size blk o0 (cap - l) cl e2 fr hD (by omega) hb (by rw [show off + l + (cap - l) = off + cap by omega]; exact hf)
   rwa [show o0 + (off + l) * (T e).size = o0 + off * (T e).size + l * (T e).size by rw [Nat.add_mul]; omega] at this
 | sl0 _ _ _ sz2 loc a hD =>
  obtain ⟨h3, h4, h5⟩ := bounds_run (P := P) hr true (Nat.le_refl 0) h1 h2
  refine ⟨_, slc_run hT ht hs h3, ?_⟩
  rw [if_pos (by omega), show hh - l = 0 by omega, show 0 - l = 0 by omega]
  exact .sl0 o ep (off + l) sz2 _ _ hD
 | slS _ _ _ _ _ d _ hD hst _ =>
  rw [dir_arr ho] at hD
  obtain rfl := Option.some.inj hD
  exact (stale_arr hst).elim

theorem slcRo_sound (hT : TOK P T) {D : Dir} {ok : Nat → Prop} {ev : Operand → V} {ρ : Operand → Value} (hr : ∀ x, VRel D ok w (ev x) (ρ x)) {t e : TypeId} (ht : (T t).kind = .slc e) (hs : (T e).size ≠ 0) {es : List (List V)} {u0 : Value}
  (hx : VRel D ok w (.ro (T e).size es) u0) {lo hi : Option Operand} {hh l : Nat} (h1 : boundOf ev es.length es.length hi = some hh) (h2 : boundOf ev hh 0 lo = some l) :
  ∃ r, (Instr.sliceAt t u0 (lo.map ρ) (hi.map ρ) none).run P w = .ok r w ∧ VRel D ok w (.ro (T e).size ((es.drop l).take (hh - l))) r := by
 cases hx with
 | pure hp =>
  cases hp with
  | ro0 _ a cap =>
   obtain ⟨h3, h4, h5⟩ := bounds_run (P := P) hr true (Nat.zero_le cap) h1 h2
   refine ⟨_, slc_run hT ht hs h3, ?_⟩
   have hh0 : hh = 0 := by simpa using h4
   have hl0 : l = 0 := by omega
   subst hh0; subst hl0
   simpa using VRel.pure (D := D) (PRel.ro0 (ok := ok) (w := w) (T e).size _ cap)
  | ro _ _ blk off cap us hok hlt hsz hcap hm hc hrr =>
   obtain ⟨h3, h4, h5⟩ := bounds_run (P := P) hr true hcap h1 h2
   refine ⟨_, slc_run hT ht hs h3, ?_⟩
   have hlen : ((es.drop l).take (hh - l)).length = hh - l := by simp; omega
   by_cases hcl : cap = l
   ·rw [if_pos hcl]
    have h0 : (es.drop l).take (hh - l) = [] := List.eq_nil_of_length_eq_zero (by omega)
    rw [h0, show hh - l = 0 by omega]
    exact .pure (.ro (T e).size [] blk off (cap - l) (fun _ _ => undef) hok hlt (by simp) (Nat.zero_le _) (by simp [most]) (fun i j hi => by simp at hi) (fun i j x hx => by simp at hx))
   ·rw [if_neg hcl, Option.map_some, Addr.add_none]
    have := PRel.ro (ok := ok) (w := w) (T e).size ((es.drop l).take (hh - l)) blk (off + l * (T e).size) (cap - l) (fun i j => us (l + i) j) hok hlt
     (fun x hx => hsz x (List.mem_of_mem_drop (List.mem_of_mem_take hx))) (by omega) (by omega)
     (fun i j hi hj => by
      have := hc (l + i) j (by omega) hj
      rwa [show off + (l + i) * (T e).size + j = off + l * (T e).size + i * (T e).size + j by rw [Nat.add_mul]; omega] at this)
     (fun i j x hx => hrr (l + i) j x (by
      rw [List.getElem?_take] at hx
      split at hx
      ·rwa [List.getElem?_drop] at hx
      ·cases hx))
    rw [hlen] at this
    exact .pure this

theorem slcZ_sound (hT : TOK P T) {D : Dir} {ok : Nat → Prop} {ev : Operand → V} {ρ : Operand → Value} (hr : ∀ x, VRel D ok w (ev x) (ρ x)) {t e : TypeId} (ht : (T t).kind = .slc e) (hs : (T e).size ≠ 0) {es : List (List V)} {u0 : Value} {sz : Nat}
  (hx : VRel D ok w (.ro sz es) u0) {lo : Option Operand} {hi mx : Operand} {hh l mm : Nat} (h1 : boundOf ev 0 0 (some hi) = some hh) (h2 : boundOf ev 0 0 lo = some l) (h3 : boundOf ev 0 0 (some mx) = some mm) :
  ∃ r, (Instr.sliceAt t u0 (lo.map ρ) ((some hi).map ρ) ((some mx).map ρ)).run P w = .ok r w ∧ VRel D ok w .z r := by
 have hval : ∃ a len cap, u0 = .slice a len cap := by
  cases hx with
  | pure hp => cases hp <;> exact ⟨_, _, _, rfl⟩
 obtain ⟨a, len, cap, rfl⟩ := hval
 have hb : (Instr.sliceBounds true len cap (lo.map ρ) ((some hi).map ρ) ((some mx).map ρ)).run P w = .ok (0, 0, 0) w := by
  rcases bound_inv hr h1 with ⟨h, _⟩ | ⟨y, k, c, hy, hyv, hy0, hy1, _⟩
  ·cases h
  rcases bound_inv hr h3 with ⟨h, _⟩ | ⟨y', k', c', hy', hyv', hy0', hy1', _⟩
  ·cases h
  cases hy; cases hy'
  obtain rfl : c = 0 := by omega
  obtain rfl : c' = 0 := by omega
  rcases bound_inv hr h2 with ⟨rfl, _⟩ | ⟨y2, k2, c2, rfl, hyv2, hy02, hy12, _⟩
  ·simp [Instr.sliceBounds, hyv, hyv', Instr.sliceBound, asIntOf]
  ·obtain rfl : c2 = 0 := by omega
   simp [Instr.sliceBounds, hyv, hyv', hyv2, Instr.sliceBound, asIntOf]
 exact ⟨_, slc_run hT ht hs hb, by simpa using VRel.pure (D := D) (PRel.z (ok := ok) (w := w) a)⟩

theorem slcNil_sound (hT : TOK P T) {D : Dir} {ok : Nat → Prop} {ev : Operand → V} {ρ : Operand → Value} (hr : ∀ x, VRel D ok w (ev x) (ρ x)) {t e : TypeId} (ht : (T t).kind = .slc e) (hs : (T e).size ≠ 0)
  {lo hi : Option Operand} {hh l : Nat} (h1 : boundOf ev 0 0 hi = some hh) (h2 : boundOf ev 0 0 lo = some l) :
  (Instr.sliceAt t (.slice none 0 0) (lo.map ρ) (hi.map ρ) none).run P w = .ok (.slice none 0 0) w := by
 have hh0 : hh = 0 := by
  rcases bound_inv hr h1 with ⟨_, h⟩ | ⟨_, _, _, _, _, _, _, h⟩ <;> omega
 subst hh0
 obtain ⟨h3, h4, h5⟩ := bounds_run (P := P) hr true (Nat.le_refl 0) h1 h2
 have hl0 : l = 0 := by omega
 subst hl0
 simpa using slc_run hT ht hs h3 (a := none)

theorem minmax_sound {D : Dir} {ok : Nat → Prop} {mx : Bool} {l : List V} {us : List Value} {v : V} (hl : us.length = l.length) (hr : ∀ (j : Nat) (x : V) (u : Value), l[j]? = some x → us[j]? = some u → VRel D ok w x u) (hv : minmaxV mx l = some v) (tys : Array TypeId) (ty : TypeId) :
  ∃ u, (if mx then Builtin.max_ tys ty us.toArray else Builtin.min_ tys ty us.toArray).run P w = .ok u w ∧ VRel D ok w v u := by
 unfold minmaxV at hv
 split at hv
 ·rename_i k x k' y
  split at hv
  ·rename_i hk
   subst hk
   cases hv
   match us, hl with
   | [u0, u1], _ =>
    obtain rfl := (hr 0 _ _ rfl rfl).i_inv
    obtain rfl := (hr 1 _ _ rfl rfl).i_inv
    cases mx
    ·exact ⟨_, by simp [Builtin.min_, Builtin.min2], .pure (.i _ _)⟩
    ·exact ⟨_, by simp [Builtin.max_, Builtin.max2], .pure (.i _ _)⟩
  ·cases hv
 ·cases hv

theorem foldl_push (ns : List Int) : ∀ s : ByteArray, (ns.foldl (fun r n => r.push (UInt8.ofNat n.toNat)) s).data.toList = s.data.toList ++ ns.map fun n => UInt8.ofNat n.toNat := by
 induction ns with
 | nil => intro s; simp
 | cons n ns ih => intro s; simp [ih]

theorem elems_val {D : Dir} {ok : Nat → Prop} {sz : Nat} {lk : Nat → Ob} {x : V} {u0 : Value} {es : List (List V)} (hx : VRel D ok w x u0) (he : elemsOf sz lk x = some es) (hns : ∀ l, x ≠ .s l) : ∃ a n c, u0 = .slice a n c := by
 unfold elemsOf at he
 split at he
 ·cases hx with
  | pure hp => cases hp <;> exact ⟨_, _, _, rfl⟩
 ·cases hx with
  | pure hp => cases hp
  | sl => exact ⟨_, _, _, rfl⟩
  | sl0 => exact ⟨_, _, _, rfl⟩
  | slS => exact ⟨_, _, _, rfl⟩
 ·exact ⟨_, _, _, hx.c_inv⟩
 ·cases hx with
  | pure hp => cases hp; exact ⟨_, _, _, rfl⟩
 ·exact absurd rfl (hns _)
 ·cases he

theorem bytes_sound (R : HRel E m h w) {x : V} {u0 : Value} {es : List (List V)} {l : List UInt8} (hx : VRel (dirOf m h) (okc E m h) w x u0) (he : elemsOf 1 (fun o => h.getD o .unborn) x = some es) (hns : ∀ l, x ≠ .s l) (hb : bytesOf es = some l) :
  ∃ u, (Conv.bytesToString u0).run P w = .ok u w ∧ VRel (dirOf m h) (okc E m h) w (.s l) u := by
 obtain ⟨us, hu⟩ := elems_sound (P := P) R hx he
 have hbs : ∀ (es : List (List V)) (l : List UInt8), bytesOf es = some l → ∃ ns : List Int, es = ns.map (fun n => [V.i .u8 n]) ∧ l = ns.map fun n => UInt8.ofNat n.toNat := by
  intro es
  induction es with
  | nil => intro l hl; simp [bytesOf] at hl; exact ⟨[], rfl, by simp [hl]⟩
  | cons e es ih =>
   intro l hl
   unfold bytesOf at hl
   split at hl
   ·rename_i h; cases h
   ·rename_i n r h
    cases h
    simp only [Option.map_eq_some_iff] at hl
    obtain ⟨l', h1, rfl⟩ := hl
    obtain ⟨ns, rfl, rfl⟩ := ih l' h1
    exact ⟨n :: ns, rfl, rfl⟩
   ·cases hl
 obtain ⟨ns, rfl, rfl⟩ := hbs es l hb
 have hus : us = ns.map (Value.int .u8) := by
  apply List.ext_getElem?
  intro j
  by_cases hj : j < ns.length
  ·obtain ⟨u, h1, h2⟩ := hu.rel j 0 (.i .u8 ns[j]) (by simp [hj])
   rw [Nat.mul_one, Nat.add_zero] at h1
   rw [h1, h2.i_inv]
   simp [hj]
  ·rw [List.getElem?_eq_none (by rw [hu.len]; simpa using hj), List.getElem?_eq_none (by simpa using hj)]
 have hf := hu.first ns.length w (by simp) (fun _ => rfl)
 have htake : us.take (ns.length * 1) = us := List.take_of_length_le (by rw [hu.len]; simp)
 rw [htake, hus] at hf
 have hl := hu.lenOf w
 have hres : VRel (dirOf m h) (okc E m h) w (.s (ns.map fun n => UInt8.ofNat n.toNat)) (.string (ns.foldl (fun r n => r.push (UInt8.ofNat n.toNat)) ByteArray.empty)) := by
  have := PRel.s (ok := okc E m h) (w := w) (ns.foldl (fun r n => r.push (UInt8.ofNat n.toNat)) ByteArray.empty)
  rw [foldl_push] at this
  exact .pure this
 have hval := elems_val hx he hns
 obtain ⟨a, n, c, rfl⟩ := hval
 simp only [Builtin.lenOf, Sem.run_pure, List.length_map, Result.ok.injEq, and_true] at hl
 subst hl
 cases a with
 | none =>
  simp only [Builtin.firstCells, Sem.run_pure, Result.ok.injEq, and_true] at hf
  have : ns = [] := by
   have := congrArg Array.size hf
   simp at this
   exact List.eq_nil_of_length_eq_zero this.symm
  subst this
  exact ⟨_, rfl, hres⟩
 | some a =>
  refine ⟨_, run_bytesToString w a _ c ns ?_, hres⟩
  simpa [Builtin.firstCells] using hf

end

end Go.AM
end
section
namespace Go.AM
open Go

section
variable {P : Program} {T : Tab} {E : Env} {m : Locs} {h : List Ob} {w : World}

theorem codes_inj : ∀ {l l' : List UInt8}, l.map (fun x => (x.toNat : Int)) = l'.map (fun x => (x.toNat : Int)) → l = l'
 | [], [], _ => rfl
 | [], _ :: _, h => by cases h
 | _ :: _, [], h => by cases h
 | x :: l, y :: l', h => by
  simp only [List.map_cons, List.cons.injEq] at h
  have h1 : x = y := UInt8.toNat_inj.1 (by omega)
  rw [codes_inj h.2, h1]

theorem ck_inj {k : CK} {a b : Int} (h1 : ckOK k a) (h2 : ckOK k b) (h : ckV k a = ckV k b) : a = b := by
 cases k with
 | int k => simpa [ckV] using h
 | bool =>
  simp only [ckV, Value.bool.injEq, decide_eq_decide] at h
  rcases h1 with rfl | rfl <;> rcases h2 with rfl | rfl <;> simp_all

theorem zw_inj : ∀ {ks : List CK} {c c' : List Int}, cksOK ks c → cksOK ks c' → List.zipWith ckV ks c = List.zipWith ckV ks c' → c = c'
 | [], [], [], _, _, _ => rfl
 | [], _ :: _, _, h, _, _ => h.elim
 | [], [], _ :: _, _, h, _ => h.elim
 | _ :: _, [], _, h, _, _ => h.elim
 | _ :: _, _ :: _, [], _, h, _ => h.elim
 | k :: ks, a :: c, b :: c', h1, h2, h => by
  simp only [List.zipWith_cons_cons, List.cons.injEq] at h
  rw [ck_inj h1.1 h2.1 h.1, zw_inj h1.2 h2.2 h.2]

theorem keyR_code {kk : KK} {c c' : List Int} {v : Value} (h : keyR kk c v) (h' : keyR kk c' v) : c = c' := by
 cases kk with
 | int k =>
  obtain ⟨n, rfl, rfl⟩ := h
  obtain ⟨n', rfl, h2⟩ := h'
  cases h2
  rfl
 | str =>
  obtain ⟨b, rfl, rfl⟩ := h
  obtain ⟨b', rfl, h2⟩ := h'
  cases h2
  rfl
 | ints ks =>
  obtain ⟨h1, rfl⟩ := h
  obtain ⟨h2, h3⟩ := h'
  injection h3 with h3
  exact zw_inj h1 h2 (by simpa using h3)

theorem keyR_val {kk : KK} {c : List Int} {v v' : Value} (h : keyR kk c v) (h' : keyR kk c v') : v = v' := by
 cases kk with
 | int k =>
  obtain ⟨n, rfl, rfl⟩ := h
  obtain ⟨n', h1, rfl⟩ := h'
  cases h1
  rfl
 | str =>
  obtain ⟨b, rfl, rfl⟩ := h
  obtain ⟨b', h1, rfl⟩ := h'
  have := codes_inj h1
  obtain ⟨⟨l⟩⟩ := b
  obtain ⟨⟨l'⟩⟩ := b'
  simp at this
  rw [this]
 | ints ks =>
  obtain ⟨_, rfl⟩ := h
  obtain ⟨_, rfl⟩ := h'
  rfl

theorem ints_rel {D : Dir} {ok : Nat → Prop} {w : World} : ∀ {ks : List CK} {cs : List V} {us : List Value} {c : List Int}, intsV ks cs = some c → us.length = cs.length → (∀ (j : Nat) (x : V) (u : Value), cs[j]? = some x → us[j]? = some u → VRel D ok w x u) → cksOK ks c ∧ us = List.zipWith ckV ks c
 | [], [], us, c, h, hl, _ => by
  simp [intsV] at h
  subst h
  simp at hl
  subst hl
  exact ⟨trivial, rfl⟩
 | [], _ :: _, us, c, h, _, _ => by simp [intsV] at h
 | k :: ks, [], us, c, h, _, _ => by cases k <;> simp [intsV] at h
 | k :: ks, x :: r, us, c, h, hl, hr => by
  cases us with
  | nil => simp at hl
  | cons u us =>
   have rest : ∀ {c'}, intsV ks r = some c' → cksOK ks c' ∧ us = List.zipWith ckV ks c' := fun hc => ints_rel hc (by simpa using hl) (fun j x u hx hu => hr (j + 1) x u hx hu)
   unfold intsV at h
   split at h
   ·rename_i e; cases e
   ·rename_i k0 ks0 k' n r0 h1 h2
    cases h1
    cases h2
    split at h
    ·rename_i hk
     subst hk
     obtain ⟨c', hc, rfl⟩ := Option.map_eq_some_iff.1 h
     obtain ⟨h3, h4⟩ := rest hc
     have h5 := (hr 0 _ u rfl rfl).i_inv
     exact ⟨⟨trivial, h3⟩, by rw [h4, h5]; rfl⟩
    ·cases h
   ·rename_i ks0 b r0 h1 h2
    cases h1
    cases h2
    obtain ⟨c', hc, rfl⟩ := Option.map_eq_some_iff.1 h
    obtain ⟨h3, h4⟩ := rest hc
    have h5 := (hr 0 _ u rfl rfl).b_inv
    refine ⟨⟨by cases b <;> simp [ckOK], h3⟩, ?_⟩
    rw [h4, h5]
    cases b <;> rfl
   ·cases h

theorem keyOf_rel {D : Dir} {ok : Nat → Prop} {w : World} {kk : KK} {c : List Int} {x : V} {u : Value} (hv : VRel D ok w x u) (h : keyOf kk x = some c) : keyR kk c u := by
 unfold keyOf at h
 split at h
 ·rename_i k n
  split at h
  ·rename_i hk
   subst hk
   cases h
   exact ⟨n, rfl, hv.i_inv⟩
  ·cases h
 ·rename_i s
  split at h
  ·rename_i hk
   subst hk
   cases h
   obtain ⟨b, rfl, rfl⟩ := hv.s_inv
   exact ⟨b, rfl, rfl⟩
  ·cases h
 ·rename_i cs
  split at h
  ·obtain ⟨us, rfl, hul, _, hr⟩ := hv.agg_inv
   obtain ⟨h1, h2⟩ := ints_rel h hul hr
   exact ⟨h1, by rw [h2]⟩
  ·cases h
 ·cases h

def kkD : KK → TypeDesc → Prop
 | .int _, d => ∃ k, d = .int k
 | .str, d => d = .string
 | .ints _, _ => False

theorem sameNow_spec {kk : KK} {d : TypeDesc} (hd : kkD kk d) {c c' : List Int} {v v' : Value} (h : keyR kk c v) (h' : keyR kk c' v') :
  Instr.sameNow d v v' = some (decide (c = c')) := by
 cases kk with
 | int k =>
  obtain ⟨k0, rfl⟩ := hd
  obtain ⟨n, rfl, rfl⟩ := h
  obtain ⟨n', rfl, rfl⟩ := h'
  by_cases e : n = n' <;> simp [Instr.sameNow, e]
 | str =>
  subst hd
  obtain ⟨b, rfl, rfl⟩ := h
  obtain ⟨b', rfl, rfl⟩ := h'
  simp only [Instr.sameNow, Option.some.injEq]
  by_cases e : b = b'
  ·subst e; rw [beq_toListBytes]; simp
  ·have : b.data.toList.map (fun x => (x.toNat : Int)) ≠ b'.data.toList.map (fun x => (x.toNat : Int)) := fun q => by
    have := codes_inj q
    obtain ⟨⟨l⟩⟩ := b
    obtain ⟨⟨l'⟩⟩ := b'
    simp at this
    exact e (by rw [this])
   rw [decide_eq_false this, beq_toListBytes, ByteArray.toList_eq, ByteArray.toList_eq]
   refine beq_eq_false_iff_ne.2 fun q => e ?_
   obtain ⟨⟨l⟩⟩ := b
   obtain ⟨⟨l'⟩⟩ := b'
   simp at q
   rw [q]
 | ints ks => exact hd.elim

theorem findNow_spec {kk : KK} {d : TypeDesc} (hd : kkD kk d) {c : List Int} {v : Value} (hv : keyR kk c v) : ∀ (es : List MapEntry) (i : Nat), (∀ e ∈ es, ∃ c, keyR kk c e.key) → ∃ r, Instr.findNow d v es i = some r ∧
  match r with
  | none => ∀ e ∈ es, ¬ keyR kk c e.key
  | some (j, x) => ∃ j', j = i + j' ∧ ∃ e, es[j']? = some e ∧ keyR kk c e.key ∧ e.val = x
 | [], i, _ => ⟨none, rfl, by simp⟩
 | e :: es, i, hk => by
  obtain ⟨c', hc'⟩ := hk e (by simp)
  by_cases hn : c = c'
  ·subst hn
   refine ⟨some (i, e.val), ?_, 0, rfl, e, rfl, hc', rfl⟩
   simp [Instr.findNow, sameNow_spec hd hv hc']
  ·obtain ⟨r, h1, h2⟩ := findNow_spec hd hv es (i + 1) (fun e he => hk e (by simp [he]))
   refine ⟨r, ?_, ?_⟩
   ·simp [Instr.findNow, sameNow_spec hd hv hc', hn, h1]
   ·cases r with
    | none =>
     intro e' he'
     rcases List.mem_cons.1 he' with rfl | he'
     ·exact fun q => hn (keyR_code q hc')
     ·exact h2 e' he'
    | some p =>
     obtain ⟨j, v⟩ := p
     obtain ⟨j', rfl, e', h3, h4, h5⟩ := h2
     exact ⟨j' + 1, by omega, e', by simpa using h3, h4, h5⟩

theorem key_unique {kk : KK} {c : List Int} : ∀ {es : List MapEntry}, es.Pairwise (fun e e' => ∀ c, keyR kk c e.key → ¬ keyR kk c e'.key) → ∀ {e e' : MapEntry}, e ∈ es → e' ∈ es → keyR kk c e.key → keyR kk c e'.key → e = e'
 | [], _, e, e', he, _, _, _ => by cases he
 | x :: es, hp, e, e', he, he', hk, hk' => by
  obtain ⟨h1, h2⟩ := List.pairwise_cons.1 hp
  rcases List.mem_cons.1 he with h3 | h3 <;> rcases List.mem_cons.1 he' with h4 | h4
  ·rw [h3, h4]
  ·subst h3; exact absurd hk' (h1 e' h4 c hk)
  ·subst h4; exact absurd hk (h1 e h3 c hk')
  ·exact key_unique h2 h3 h4 hk hk'

theorem kk_und (hT : TOK P T) {kt : TypeId} {kk : KK} (hk : kkOf T kt = some kk) : (∃ d, P.underlying kt = some d ∧ kkD kk d) ∨ ∃ ks fs, kk = .ints ks ∧ (T kt).kind = .str fs ∧ (T kt).zero.all flatC = true ∧ intsOf T 0 fs = some ks := by
 unfold kkOf at hk
 split at hk
 ·rename_i k h; cases hk; exact .inl ⟨_, hT.int h, k, rfl⟩
 ·rename_i h; cases hk; exact .inl ⟨_, hT.string h, rfl⟩
 ·rename_i fs h
  split at hk
  ·rename_i hz
   obtain ⟨ks, h1, rfl⟩ := Option.map_eq_some_iff.1 hk
   exact .inr ⟨ks, fs, rfl, h, hz, h1⟩
  ·cases hk
 ·cases hk

theorem cks_len : ∀ {ks : List CK} {c : List Int}, cksOK ks c → c.length = ks.length
 | [], [], _ => rfl
 | [], _ :: _, h => h.elim
 | _ :: _, [], h => h.elim
 | k :: ks, n :: c, h => by simp [cks_len h.2]

def ckD : CK → TK → Prop
 | .int k, d => d = .int k
 | .bool, d => d = .bool

theorem ints_fields : ∀ {i : Nat} {fs : List (Nat × TypeId)} {ks : List CK}, intsOf T i fs = some ks → ∀ {c : List Int}, c.length = ks.length → ∀ f ∈ fs, ∃ k n, ckD k (T f.2).kind ∧ i ≤ f.1 ∧ (List.zipWith ckV ks c)[f.1 - i]? = some (ckV k n)
 | i, [], ks, h, c, _, f, hf => by cases hf
 | i, (o, ft) :: fs, ks, h, c, hc, f, hf => by
  have go : ∀ (k : CK) (ks' : List CK), ckD k (T ft).kind → o = i → intsOf T (i + 1) fs = some ks' → ks = k :: ks' → ∃ k n, ckD k (T f.2).kind ∧ i ≤ f.1 ∧ (List.zipWith ckV ks c)[f.1 - i]? = some (ckV k n) := by
   rintro k ks' hk rfl h1 rfl
   cases c with
   | nil => simp at hc
   | cons n c =>
    rcases List.mem_cons.1 hf with rfl | hf
    ·exact ⟨k, n, hk, Nat.le_refl _, by simp⟩
    ·obtain ⟨k2, n2, h2, h3, h4⟩ := ints_fields h1 (by simpa using hc) f hf
     refine ⟨k2, n2, h2, by omega, ?_⟩
     rw [show f.1 - o = (f.1 - (o + 1)) + 1 by omega]
     simpa using h4
  simp only [intsOf] at h
  split at h
  ·rename_i ho
   split at h
   ·rename_i k hk
    obtain ⟨ks', h1, rfl⟩ := Option.map_eq_some_iff.1 h
    exact go (.int k) ks' hk ho h1 rfl
   ·rename_i hk
    obtain ⟨ks', h1, rfl⟩ := Option.map_eq_some_iff.1 h
    exact go .bool ks' hk ho h1 rfl
   ·cases h
  ·cases h

def ckA : CK → Int → V
 | .int k, n => .i k n
 | .bool, n => .b (decide (n = 1))

theorem eqCells_ints : ∀ {i : Nat} {fs : List (Nat × TypeId)} {ks : List CK}, intsOf T i fs = some ks → ∀ {c c' : List Int}, cksOK ks c → cksOK ks c' → eqCells T i fs (List.zipWith ckA ks c) (List.zipWith ckA ks c') = some (decide (c = c'))
 | i, [], ks, h, c, c', hc, hc' => by
  simp only [intsOf, Option.some.injEq] at h
  subst h
  cases c <;> cases c' <;> first | exact hc.elim | exact hc'.elim | simp [eqCells]
 | i, (o, ft) :: fs, ks, h, c, c', hc, hc' => by
  simp only [intsOf] at h
  split at h
  ·rename_i ho
   split at h
   ·rename_i k hk
    obtain ⟨ks', h1, rfl⟩ := Option.map_eq_some_iff.1 h
    cases c with
    | nil => exact hc.elim
    | cons n c =>
     cases c' with
     | nil => exact hc'.elim
     | cons n' c' =>
      simp only [List.zipWith_cons_cons, ckA, eqCells, ho, if_true, hk]
      rw [eqCells_ints h1 hc.2 hc'.2]
      simp only [Option.map_some, Option.some.injEq, List.cons.injEq]
      by_cases e1 : n = n' <;> by_cases e2 : c = c' <;> simp [e1, e2]
   ·rename_i hk
    obtain ⟨ks', h1, rfl⟩ := Option.map_eq_some_iff.1 h
    cases c with
    | nil => exact hc.elim
    | cons n c =>
     cases c' with
     | nil => exact hc'.elim
     | cons n' c' =>
      simp only [List.zipWith_cons_cons, ckA, eqCells, ho, if_true, hk]
      rw [eqCells_ints h1 hc.2 hc'.2]
      simp only [Option.map_some, Option.some.injEq, List.cons.injEq]
      rcases hc.1 with rfl | rfl <;> rcases hc'.1 with rfl | rfl <;> by_cases e2 : c = c' <;> simp [e2]
   ·cases h
  ·cases h

theorem ck_rel {D : Dir} {ok : Nat → Prop} {w : World} (k : CK) (n : Int) : VRel D ok w (ckA k n) (ckV k n) := by
 cases k with
 | int k => exact .pure (.i _ _)
 | bool => exact .pure (.b _)

theorem zw_rel {D : Dir} {ok : Nat → Prop} {w : World} (ks : List CK) (c : List Int) (j : Nat) (x : V) (h : (List.zipWith ckA ks c)[j]? = some x) : ∃ u, (List.zipWith ckV ks c).toArray[j]? = some u ∧ VRel D ok w x u := by
 rw [List.getElem?_zipWith] at h
 split at h
 ·rename_i a b h1 h2
  cases h
  exact ⟨ckV a b, by simp [List.getElem?_zipWith, h1, h2], ck_rel _ _⟩
 ·cases h

theorem equal_ints (hT : TOK P T) {kt : TypeId} {fs : List (Nat × TypeId)} {ks : List CK} (ht : (T kt).kind = .str fs) (hz : (T kt).zero.all flatC = true) (hi : intsOf T 0 fs = some ks) {c c' : List Int} {v v' : Value} (h : keyR (.ints ks) c v) (h' : keyR (.ints ks) c' v') :
  (Op.equal kt v v').run P w = .ok (decide (c = c')) w := by
 obtain ⟨h1, rfl⟩ := h
 obtain ⟨h2, rfl⟩ := h'
 have he : eqAgg T kt (List.zipWith ckA ks c) (List.zipWith ckA ks c') = some (decide (c = c')) := by
  unfold eqAgg
  rw [ht]
  simp only [hz, if_true]
  exact eqCells_ints hi h1 h2
 exact (flat_eq_run (D := fun _ => none) (ok := fun _ => True) hT he (zw_rel ks c) (zw_rel ks c') 9998).1

theorem findAsking_spec (hT : TOK P T) {kt : TypeId} {fs : List (Nat × TypeId)} {ks : List CK} (ht : (T kt).kind = .str fs) (hz : (T kt).zero.all flatC = true) (hi : intsOf T 0 fs = some ks) {c : List Int} {v : Value} (hv : keyR (.ints ks) c v) :
  ∀ (es : List MapEntry) (i : Nat), (∀ e ∈ es, ∃ c, keyR (.ints ks) c e.key) → ∃ r, (Instr.findAsking kt v es i).run P w = .ok r w ∧
  match r with
  | none => ∀ e ∈ es, ¬ keyR (.ints ks) c e.key
  | some (j, x) => ∃ j', j = i + j' ∧ ∃ e, es[j']? = some e ∧ keyR (.ints ks) c e.key ∧ e.val = x
 | [], i, _ => ⟨none, rfl, by simp⟩
 | e :: es, i, hk => by
  obtain ⟨c', hc'⟩ := hk e (by simp)
  have hrun := equal_ints (w := w) hT ht hz hi hv hc'
  by_cases hn : c = c'
  ·subst hn
   refine ⟨some (i, e.val), ?_, 0, rfl, e, rfl, hc', rfl⟩
   simp [Instr.findAsking, hrun]
  ·obtain ⟨r, h1, h2⟩ := findAsking_spec hT ht hz hi hv es (i + 1) (fun e he => hk e (by simp [he]))
   refine ⟨r, ?_, ?_⟩
   ·simp [Instr.findAsking, hrun, hn, h1]
   ·cases r with
    | none =>
     intro e' he'
     rcases List.mem_cons.1 he' with rfl | he'
     ·exact fun q => hn (keyR_code q hc')
     ·exact h2 e' he'
    | some p =>
     obtain ⟨j, v⟩ := p
     obtain ⟨j', rfl, e', h3, h4, h5⟩ := h2
     exact ⟨j' + 1, by omega, e', by simpa using h3, h4, h5⟩

theorem findKey_spec (hT : TOK P T) {kt : TypeId} {kk : KK} (hk : kkOf T kt = some kk) {c : List Int} {v : Value} (hv : keyR kk c v) (es : List MapEntry) (he : ∀ e ∈ es, ∃ c, keyR kk c e.key) : ∃ r, (Instr.findKey kt v es).run P w = .ok r w ∧
  match r with
  | none => ∀ e ∈ es, ¬ keyR kk c e.key
  | some (j, x) => ∃ e, es[j]? = some e ∧ keyR kk c e.key ∧ e.val = x := by
 rcases kk_und hT hk with ⟨d, hu, hd⟩ | ⟨ks, fs, rfl, ht, hz, hi⟩
 ·obtain ⟨r, h1, h2⟩ := findNow_spec hd hv es 0 he
  refine ⟨r, by simp [Instr.findKey, run_und hu, h1], ?_⟩
  cases r with
  | none => exact h2
  | some p => obtain ⟨j, x⟩ := p; obtain ⟨j', rfl, h3⟩ := h2; simpa using h3
 ·obtain ⟨fl, hu, _⟩ := hT.str ht
  obtain ⟨r, h1, h2⟩ := findAsking_spec (w := w) hT ht hz hi hv es 0 he
  refine ⟨r, ?_, ?_⟩
  ·cases es with
   | nil => simp [Instr.findAsking] at h1; subst h1; simp [Instr.findKey, run_und hu, Instr.findNow]
   | cons e es => simp [Instr.findKey, run_und hu, Instr.findNow, Instr.sameNow, h1]
  ·cases r with
   | none => exact h2
   | some p => obtain ⟨j, x⟩ := p; obtain ⟨j', rfl, h3⟩ := h2; simpa using h3

theorem checkKey_fields (b : Bool) (d : Nat) (cs : Array Value) : ∀ (fl : List Field), (∀ f ∈ fl, ∃ d v, P.underlying f.type = some d ∧ ((∃ k, d = .int k) ∨ d = .bool) ∧ cs[f.offset]? = some v) →
  (forIn fl PUnit.unit fun f _ => do
   if f.name ≠ "_" then
    Instr.checkKey b (d + 1) f.type (← part f.type cs f.offset)
    pure (ForInStep.yield PUnit.unit)
   else pure (ForInStep.yield PUnit.unit) : Sem PUnit).run P w = .ok ⟨⟩ w
 | [], _ => rfl
 | f :: fl, h => by
  obtain ⟨dd, v, hu, hd, hc⟩ := h f (by simp)
  have ih := checkKey_fields b d cs fl (fun g hg => h g (by simp [hg]))
  rw [List.forIn_cons]
  by_cases hn : f.name = "_"
  ·simp only [hn, ne_eq, not_true, if_false, Sem.run_bind]
   simpa [Result.andThen] using ih
  ·simp only [hn, ne_eq, not_false_eq_true, if_true, Sem.run_bind]
   rw [part_flat hu (hd.imp id .inl) hc, Result.andThen_ok]
   have : (Instr.checkKey b (d + 1) f.type v).run P w = .ok () w := by rcases hd with ⟨k, rfl⟩ | rfl <;> simp [Instr.checkKey, run_und hu]
   rw [this]
   simpa [Result.andThen] using ih

theorem checkKey_run (hT : TOK P T) {kt : TypeId} {kk : KK} (hk : kkOf T kt = some kk) (b : Bool) {c : List Int} {v : Value} (hv : keyR kk c v) : (Instr.checkKey b 10000 kt v).run P w = .ok () w := by
 have : ∃ d, Instr.checkKey b 10000 kt v = Instr.checkKey b (d + 2) kt v := ⟨9998, rfl⟩
 obtain ⟨d, hd⟩ := this
 rw [hd]
 rcases kk_und hT hk with ⟨u, hu, hm⟩ | ⟨ks, fs, rfl, ht, hz, hi⟩
 ·cases kk with
  | int k =>
   obtain ⟨k0, rfl⟩ := hm
   simp [Instr.checkKey, run_und hu]
  | str =>
   subst hm
   simp [Instr.checkKey, run_und hu]
  | ints ks => exact hm.elim
 ·obtain ⟨fl, hu, hfl⟩ := hT.str ht
  obtain ⟨h1, rfl⟩ := hv
  have := checkKey_fields (P := P) (w := w) b d (List.zipWith ckV ks c).toArray fl.toList (fun f hf => by
   obtain ⟨k, n, h2, _, h3⟩ := ints_fields hi (cks_len h1) (f.offset, f.type) (by rw [← hfl]; exact List.mem_map.2 ⟨f, hf, rfl⟩)
   cases k with
   | int k => exact ⟨_, _, hT.int h2, .inl ⟨k, rfl⟩, by simpa using h3⟩
   | bool => exact ⟨_, _, hT.bool h2, .inr rfl, by simpa using h3⟩)
  rw [Instr.checkKey, Sem.run_bind, run_und hu, Result.andThen_ok]
  dsimp only
  rw [← Array.forIn_toList, Sem.run_bind, this]
  rfl

theorem sameBits_self {kk : KK} {c : List Int} {v : Value} (hv : keyR kk c v) : Instr.sameBits 10000 v v = true := by
 have : ∃ d, Instr.sameBits 10000 v v = Instr.sameBits (d + 2) v v := ⟨9998, rfl⟩
 obtain ⟨d, hd⟩ := this
 rw [hd]
 cases kk with
 | int k => obtain ⟨n, rfl, rfl⟩ := hv; simp [Instr.sameBits]
 | str => obtain ⟨b, rfl, rfl⟩ := hv; simp [Instr.sameBits, beq_toListBytes]
 | ints ks =>
  obtain ⟨_, rfl⟩ := hv
  simp only [Instr.sameBits, beq_self_eq_true, Bool.true_and, List.all_eq_true]
  rintro ⟨x, y⟩ hxy
  have : ∀ (l : List Value), (∀ z ∈ l, ∃ k n, z = ckV k n) → (x, y) ∈ l.zip l → Instr.sameBits (d + 1) x y = true := by
   intro l
   induction l with
   | nil => intro _ h; cases h
   | cons z l ih =>
    intro hz h
    rcases List.mem_cons.1 h with h | h
    ·cases h
     obtain ⟨k, n, rfl⟩ := hz x (by simp)
     cases k <;> simp [Instr.sameBits, ckV]
    ·exact ih (fun q hq => hz q (by simp [hq])) h
  refine this _ (fun z hz => ?_) hxy
  obtain ⟨i, hi⟩ := List.mem_iff_getElem?.1 hz
  rw [List.getElem?_zipWith] at hi
  split at hi
  ·cases hi; exact ⟨_, _, rfl⟩
  ·cases hi

theorem mp_inv (R : HRel E m h w) {o : Nat} {k : KK} {f : List Int → Option V} {u : Value} (ho : h.getD o .unborn = .mp k f) (hv : VRel (dirOf m h) (okc E m h) w (.mp o) u) :
  ∃ blk es clock, u = .map (some blk) ∧ m o = some (blk, 0) ∧ w.heap[blk]? = some (.map es clock) ∧ MRel (dirOf m h) (okc E m h) w k es.toList f := by
 have hob := R.obs o
 rw [ho] at hob
 obtain ⟨blk, es, clock, hm, hc, hr⟩ := hob
 cases hv with
 | pure hp => cases hp
 | mp _ k' blk' off hD =>
  rw [dir_mp ho, hm] at hD
  cases hD
  exact ⟨blk, es, clock, rfl, hm, hc, hr⟩
 | mpS _ _ hD =>
  rw [dir_mp ho] at hD
  cases hD

theorem find_run (hT : TOK P T) {kt : TypeId} {k : KK} (hk : kkOf T kt = some k) {D : Dir} {ok : Nat → Prop} {es : List MapEntry} {f : List Int → Option V} (hr : MRel D ok w k es f) {c : List Int} {y : Value} (hy : keyR k c y) :
  (∃ v j e, f c = some v ∧ es[j]? = some e ∧ keyR k c e.key ∧ VRel D ok w v e.val ∧ (Instr.findKey kt y es).run P w = .ok (some (j, e.val)) w) ∨
  (f c = none ∧ (∀ e ∈ es, ¬ keyR k c e.key) ∧ (Instr.findKey kt y es).run P w = .ok none w) := by
 obtain ⟨r, hrun, h2⟩ := findKey_spec (w := w) hT hk hy es hr.keys
 cases r with
 | none =>
  refine .inr ⟨?_, h2, hrun⟩
  cases hf : f c with
  | none => rfl
  | some v =>
   obtain ⟨e, he, hke, _⟩ := hr.has c v hf
   exact absurd hke (h2 e he)
 | some p =>
  obtain ⟨j, v⟩ := p
  obtain ⟨e, h3, h4, rfl⟩ := h2
  cases hf : f c with
  | none => exact absurd h4 (hr.none c hf e (List.mem_of_getElem? h3))
  | some v =>
   obtain ⟨e', he', hke', hv⟩ := hr.has c v hf
   have := key_unique hr.nodup (List.mem_of_getElem? h3) he' h4 hke'
   subst this
   exact .inl ⟨v, j, e, rfl, h3, h4, hv, hrun⟩

theorem lookup_sound (hT : TOK P T) (R : HRel E m h w) {t kt et : TypeId} (ht : (T t).kind = .map kt et) {k : KK} (hk : kkOf T kt = some k) (hs : (T et).size ≠ 0) {o : Nat} {f : List Int → Option V} (ho : h.getD o .unborn = .mp k f)
  {u : Value} (hx : VRel (dirOf m h) (okc E m h) w (.mp o) u) {c : List Int} {y : Value} (hy : keyR k c y) (ok : Bool) :
  ∃ r, (Instr.lookup t u y ok).run P w = .ok r w ∧ VRel (dirOf m h) (okc E m h) w (if ok then .tup [(f c).getD (toV (T et).zv), .b (f c).isSome] else (f c).getD (toV (T et).zv)) r := by
 obtain ⟨blk, es, clock, rfl, hm, hc, hr⟩ := mp_inv R ho hx
 have hget : (getObj blk).run P w = .ok (.map es clock) w := by simp [getObj, Sem.run, hc]
 have fin : ∀ (v : V) (u : Value) (b : Bool), VRel (dirOf m h) (okc E m h) w v u →
   VRel (dirOf m h) (okc E m h) w (if ok then .tup [v, .b b] else v) (if ok then .tuple #[u, .bool b] else u) := by
  intro v u b hv
  cases ok
  ·simpa using hv
  ·simp only [if_true]
   refine .tup [v, .b b] [u, .bool b] rfl fun j x y hx hy => ?_
   match j with
   | 0 => simp at hx hy; subst hx; subst hy; exact hv
   | 1 => simp at hx hy; subst hx; subst hy; exact .pure (.b b)
   | j + 2 => simp at hx
 rcases find_run (P := P) hT hk hr hy with ⟨v, j, e, hf, hj, hke, hv, hrun⟩ | ⟨hf, hno, hrun⟩
 ·rw [hf]
  refine ⟨_, ?_, fin v e.val true hv⟩
  simp [Instr.lookup, run_und (hT.mp ht), hget, checkKey_run hT hk _ hy, hrun]
 ·rw [hf]
  refine ⟨_, ?_, fin (toV (T et).zv) (T et).zv false (toV_rel _)⟩
  simp [Instr.lookup, run_und (hT.mp ht), hget, checkKey_run hT hk _ hy, hrun, run_zero hT hs]

theorem WExt.setObj {S : Nat → Prop} {blk : Nat} {es : Array MapEntry} {clock : Nat} (hb : w.heap[blk]? = some (.map es clock)) (hS : S blk) (o : Obj) : WExt S w { w with heap := w.heap.setIfInBounds blk o } := by
 have hlt : blk < w.heap.size := (Array.getElem?_eq_some_iff.1 hb).1
 refine ⟨rfl, rfl, rfl, by simp, fun b hbl hn => ?_, fun b c e fr h1 => ?_⟩
 ·have hne : blk ≠ b := fun e => hn (e ▸ hS)
  simp [Array.getElem?_setIfInBounds_ne hne]
 ·have hne : blk ≠ b := by
   rintro rfl
   rw [hb] at h1
   cases h1
  exact ⟨c, fr, by simpa [Array.getElem?_setIfInBounds_ne hne] using h1, rfl⟩

theorem update_out (hT : TOK P T) (R : HRel E m h w) {t kt et : TypeId} (ht : (T t).kind = .map kt et) {k : KK} (hk : kkOf T kt = some k) {o : Nat} {f : List Int → Option V} (ho : h.getD o .unborn = .mp k f)
  {u y kv : Value} {v : V} (hx : VRel (dirOf m h) (okc E m h) w (.mp o) u) {c : List Int} (hy : keyR k c kv) (hv : VRel (dirOf m h) (okc E m h) w v y) :
  ∃ w' , (Instr.mapUpdate t u kv y).run P w = .ok () w' ∧ HRel E m (setOb h o (.mp k fun k' => if k' = c then some v else f k')) w' ∧
   (∀ x u, VRel (dirOf m h) (okc E m h) w x u → VRel (dirOf m (setOb h o (.mp k fun k' => if k' = c then some v else f k'))) (okc E m (setOb h o (.mp k fun k' => if k' = c then some v else f k'))) w' x u) := by
 obtain ⟨blk, es, clock, rfl, hm, hc, hr⟩ := mp_inv R ho hx
 have hget : (getObj blk).run P w = .ok (.map es clock) w := by simp [getObj, Sem.run, hc]
 have hset : ∀ ob, (setObj blk ob).run P w = .ok () { w with heap := w.heap.setIfInBounds blk ob } := by intro ob; simp [setObj, Sem.run, hc]
 have hlt : blk < w.heap.size := (Array.getElem?_eq_some_iff.1 hc).1
 have fin : ∀ (es' : Array MapEntry) (clock' : Nat), (Instr.mapUpdate t (.map (some blk)) kv y).run P w = .ok () { w with heap := w.heap.setIfInBounds blk (.map es' clock') } →
   (∀ D' ok' w', (∀ x u, VRel (dirOf m h) (okc E m h) w x u → VRel D' ok' w' x u) → MRel D' ok' w' k es'.toList (fun k' => if k' = c then some v else f k')) →
   ∃ w' , (Instr.mapUpdate t (.map (some blk)) kv y).run P w = .ok () w' ∧ HRel E m (setOb h o (.mp k fun k' => if k' = c then some v else f k')) w' ∧
   (∀ x u, VRel (dirOf m h) (okc E m h) w x u → VRel (dirOf m (setOb h o (.mp k fun k' => if k' = c then some v else f k'))) (okc E m (setOb h o (.mp k fun k' => if k' = c then some v else f k'))) w' x u) := by
  intro es' clock' hrun hmr
  have := R.set1 (o := o) (ob' := .mp k fun k' => if k' = c then some v else f k') (loc' := m o) (getD_setOb h o _) (WExt.setObj hc ⟨0, by rw [ho]; trivial, hm⟩ (.map es' clock'))
   (by rw [ho]; intro d hd; exact ⟨d, hd, .refl d⟩)
   (fun blk' off' hl _ => .inl ⟨by rw [ho]; trivial, off', hl⟩)
   (fun D' ok' hv _ => ⟨blk, es', clock', hm, by simp [hlt], hmr D' ok' _ hv⟩)
  refine ⟨_, hrun, ?_⟩
  have hm' : (fun x => if x = o then m o else m x) = m := by
   funext x
   by_cases hxo : x = o
   ·simp [hxo]
   ·simp [hxo]
  rw [hm'] at this
  exact this
 rcases find_run (P := P) hT hk hr hy with ⟨v0, j, e, hf, hj, hke, hv0, hrun⟩ | ⟨hf, hno, hrun⟩
 ·have hj' : es[j]? = some e := by simpa using hj
  refine fin (es.modify j fun e => { e with key := kv, val := y }) clock ?_ ?_
  ·have hek : e.key = kv := keyR_val hke hy
   simp [Instr.mapUpdate, run_und (hT.mp ht), hget, checkKey_run hT hk _ hy, hrun, hj', hek, Instr.keyThatStays, sameBits_self hy, hset]
  ·intro D' ok' w' hvv
   have hjl : j < es.toList.length := (List.getElem?_eq_some_iff.1 hj).1
   have hmem : ∀ e', e' ∈ (es.modify j fun e => { e with key := kv, val := y }).toList ↔ (∃ i, i ≠ j ∧ es.toList[i]? = some e') ∨ e' = { e with key := kv, val := y } := by
    intro e'
    rw [List.mem_iff_getElem?]
    constructor
    ·rintro ⟨i, hi⟩
     rw [Array.getElem?_toList, Array.getElem?_modify] at hi
     by_cases hij : j = i
     ·subst hij
      rw [if_pos rfl, hj'] at hi
      exact .inr (by simpa using hi.symm)
     ·rw [if_neg hij] at hi
      exact .inl ⟨i, fun h => hij h.symm, by simpa using hi⟩
    ·rintro (⟨i, hij, hi⟩ | rfl)
     ·exact ⟨i, by rw [Array.getElem?_toList, Array.getElem?_modify, if_neg (fun h => hij h.symm)]; simpa using hi⟩
     ·exact ⟨j, by rw [Array.getElem?_toList, Array.getElem?_modify, if_pos rfl, hj']; rfl⟩
   have hother : ∀ i e', i ≠ j → es.toList[i]? = some e' → ¬ keyR k c e'.key := by
    intro i e' hij hi hke'
    have hp := hr.nodup
    rw [List.pairwise_iff_getElem] at hp
    have hil := (List.getElem?_eq_some_iff.1 hi).1
    have hie := (List.getElem?_eq_some_iff.1 hi).2
    have hje := (List.getElem?_eq_some_iff.1 hj).2
    rcases Nat.lt_or_gt_of_ne hij with hlt' | hlt'
    ·exact hp i j hil hjl hlt' c (by rw [hie]; exact hke') (by rw [hje]; exact hke)
    ·exact hp j i hjl hil hlt' c (by rw [hje]; exact hke) (by rw [hie]; exact hke')
   refine ⟨?_, ?_, ?_, ?_⟩
   ·intro e' he'
    rcases (hmem e').1 he' with ⟨i, _, hi⟩ | rfl
    ·exact hr.keys e' (List.mem_of_getElem? hi)
    ·exact ⟨c, hy⟩
   ·have hkeys : (es.modify j fun e => { e with key := kv, val := y }).toList.map (fun e => e.key) = es.toList.map (fun e => e.key) := by
     apply List.ext_getElem?
     intro i
     simp only [List.getElem?_map, Array.getElem?_toList, Array.getElem?_modify]
     by_cases hij : j = i
     ·subst hij
      rw [if_pos rfl, hj']
      simp [keyR_val hke hy]
     ·rw [if_neg hij]
    have hpm : ∀ l : List MapEntry, l.Pairwise (fun e e' => ∀ c, keyR k c e.key → ¬ keyR k c e'.key) ↔ (l.map fun e => e.key).Pairwise (fun a b => ∀ c, keyR k c a → ¬ keyR k c b) :=
     fun l => (List.pairwise_map (f := fun e : MapEntry => e.key) (R := fun a b => ∀ c, keyR k c a → ¬ keyR k c b)).symm
    rw [hpm, hkeys, ← hpm]
    exact hr.nodup
   ·intro n' v' hf'
    by_cases hnn : n' = c
    ·subst hnn
     simp only [if_true, Option.some.injEq] at hf'
     subst hf'
     exact ⟨_, (hmem _).2 (.inr rfl), hy, hvv _ _ hv⟩
    ·rw [if_neg hnn] at hf'
     obtain ⟨e', he', hke', hv'⟩ := hr.has n' v' hf'
     obtain ⟨i, hi⟩ := List.mem_iff_getElem?.1 he'
     refine ⟨e', (hmem _).2 (.inl ⟨i, ?_, hi⟩), hke', hvv _ _ hv'⟩
     rintro rfl
     rw [hj] at hi
     cases hi
     exact hnn (keyR_code hke' hke)
   ·intro n' hf' e' he'
    by_cases hnn : n' = c
    ·subst hnn
     simp at hf'
    ·rw [if_neg hnn] at hf'
     rcases (hmem e').1 he' with ⟨i, _, hi⟩ | rfl
     ·exact hr.none n' hf' e' (List.mem_of_getElem? hi)
     ·exact fun q => hnn (keyR_code q hy)
 ·refine fin (es.push { key := kv, val := y, born := clock }) (clock + 1) ?_ ?_
  ·simp [Instr.mapUpdate, run_und (hT.mp ht), hget, checkKey_run hT hk _ hy, hrun, hset]
  ·intro D' ok' w' hvv
   rw [Array.toList_push]
   refine ⟨?_, ?_, ?_, ?_⟩
   ·intro e' he'
    rcases List.mem_append.1 he' with he' | he'
    ·exact hr.keys e' he'
    ·simp at he'; subst he'; exact ⟨c, hy⟩
   ·rw [List.pairwise_append]
    refine ⟨hr.nodup, by simp, fun a ha b hb n' hka hkb => ?_⟩
    simp at hb
    subst hb
    obtain rfl := keyR_code hkb hy
    exact hno a ha hka
   ·intro n' v' hf'
    by_cases hnn : n' = c
    ·subst hnn
     simp only [if_true, Option.some.injEq] at hf'
     subst hf'
     exact ⟨{ key := kv, val := y, born := clock }, List.mem_append.2 (.inr (by simp)), hy, hvv _ _ hv⟩
    ·rw [if_neg hnn] at hf'
     obtain ⟨e', he', hke', hv'⟩ := hr.has n' v' hf'
     exact ⟨e', List.mem_append.2 (.inl he'), hke', hvv _ _ hv'⟩
   ·intro n' hf' e' he'
    by_cases hnn : n' = c
    ·subst hnn
     simp at hf'
    ·rw [if_neg hnn] at hf'
     rcases List.mem_append.1 he' with he' | he'
     ·exact hr.none n' hf' e' he'
     ·simp at he'; subst he'; exact fun q => hnn (keyR_code q hy)

theorem makeMap_out (R : HRel E m h w) {t : TypeId} {nx : Nat} (hnx : h.getD nx .unborn = .unborn) (k : KK) :
  Out P E m h w (Instr.makeMap t none) (.mp nx) (setOb h nx (.mp k fun _ => none)) := by
 have hnew : (w.alloc (.map #[] 0)).heap[w.heap.size]? = some (.map #[] 0) := heap_alloc_new w _
 have := R.set1 (o := nx) (ob' := .mp k fun _ => none) (loc' := some (w.heap.size, 0)) (getD_setOb h nx _) (WExt.alloc _ w (.map #[] 0))
  (by rw [hnx]; intro d hd; cases hd)
  (fun blk off hl _ => .inr (by cases hl; exact ⟨Nat.le_refl _, by simp⟩))
  (fun D' ok' hv _ => ⟨w.heap.size, #[], 0, rfl, hnew, ⟨by simp, by simp, by simp, by simp⟩⟩)
 refine ⟨.map (some w.heap.size), _, _, ?_, this.1, this.2, .mp nx k w.heap.size 0 ?_⟩
 ·simp [Instr.makeMap]
 ·rw [dirOf_eq, getD_setOb, if_pos rfl, if_pos rfl]; rfl

end

end Go.AM
end
section
namespace Go.AM
open Go

def updL (h : List Ob) (upd : List (Nat × Ob)) : List Ob := upd.foldl (fun h p => setOb h p.1 p.2) h

def Done (P : Program) (E : Env) (m : Locs) (h : List Ob) (w : World) (s : Sem Next) (v : V) (upd : List (Nat × Ob)) : Prop :=
 ∃ nxt w' m', s.run P w = .ok nxt w' ∧ HRel E m' (updL h upd) w' ∧ (∀ x y, VRel (dirOf m h) (okc E m h) w x y → VRel (dirOf m' (updL h upd)) (okc E m' (updL h upd)) w' x y) ∧
  ((nxt = .skip ∧ v = .junk) ∨ ∃ u, nxt = .value u ∧ VRel (dirOf m' (updL h upd)) (okc E m' (updL h upd)) w' v u)

section
variable {P : Program} {T : Tab} {E : Env} {m : Locs} {h : List Ob} {w : World}

theorem Done.of_out {s : Sem Value} {v : V} {o : Nat} {ob : Ob} (H : Out P E m h w s v (setOb h o ob)) : Done P E m h w (do pure (.value (← s))) v [(o, ob)] := by
 obtain ⟨u, w', m', h1, h2, h3, h4⟩ := H
 exact ⟨.value u, w', m', by simp [h1], h2, h3, .inr ⟨u, rfl, h4⟩⟩

theorem Done.of_same (R : HRel E m h w) {s : Sem Value} {v : V} (H : ∃ u, s.run P w = .ok u w ∧ VRel (dirOf m h) (okc E m h) w v u) : Done P E m h w (do pure (.value (← s))) v [] := by
 obtain ⟨u, h1, h2⟩ := H
 exact ⟨.value u, w, m, by simp [h1], R, fun _ _ h => h, .inr ⟨u, rfl, h2⟩⟩

theorem Done.value (R : HRel E m h w) {v : V} {u : Value} (H : VRel (dirOf m h) (okc E m h) w v u) : Done P E m h w (pure (.value u)) v [] :=
 ⟨.value u, w, m, rfl, R, fun _ _ h => h, .inr ⟨u, rfl, H⟩⟩

theorem Done.of_unit {s : Sem Unit} {o : Nat} {ob : Ob} (H : ∃ w', s.run P w = .ok () w' ∧ HRel E m (setOb h o ob) w' ∧
      (∀ x u, VRel (dirOf m h) (okc E m h) w x u → VRel (dirOf m (setOb h o ob)) (okc E m (setOb h o ob)) w' x u)) : Done P E m h w (do s; pure .skip) .junk [(o, ob)] := by
 obtain ⟨w', h1, h2, h3⟩ := H
 exact ⟨.skip, w', m, by simp [h1], h2, h3, .inl ⟨rfl, rfl⟩⟩

theorem parts_rel {ev : Operand → V} {ρ : Operand → Value} {D : Dir} {ok : Nat → Prop} (hr : ∀ x, VRel D ok w (ev x) (ρ x)) (ps : Array (Nat × Operand)) :
  (ps.map fun (p : Nat × Operand) => (p.1, ρ p.2)).size = (ps.toList.map fun p => (p.1, ev p.2)).length ∧
  ∀ (j : Nat) (p : Nat × V) (q : Nat × Value), (ps.toList.map fun p => (p.1, ev p.2))[j]? = some p → (ps.map fun (p : Nat × Operand) => (p.1, ρ p.2)).toList[j]? = some q → p.1 = q.1 ∧ VRel D ok w p.2 q.2 := by
 refine ⟨by simp, fun j p q hp hq => ?_⟩
 simp only [Array.toList_map, List.getElem?_map, Option.map_eq_some_iff] at hp hq
 obtain ⟨x, hx, rfl⟩ := hp
 obtain ⟨y, hy, rfl⟩ := hq
 rw [hx] at hy
 cases hy
 exact ⟨rfl, hr _⟩

theorem list_rel {ev : Operand → V} {ρ : Operand → Value} {D : Dir} {ok : Nat → Prop} (hr : ∀ x, VRel D ok w (ev x) (ρ x)) (l : List Operand) :
  ∀ (j : Nat) (x : V) (u : Value), (l.map ev)[j]? = some x → (l.map ρ)[j]? = some u → VRel D ok w x u := by
 intro j x u hx hu
 simp only [List.getElem?_map, Option.map_eq_some_iff] at hx hu
 obtain ⟨y, hy, rfl⟩ := hx
 obtain ⟨z, hz, rfl⟩ := hu
 rw [hy] at hz
 cases hz
 exact hr _

theorem run_mapM {α β : Type} (g : α → Sem β) (k : α → β) : ∀ (l : List α), (∀ f ∈ l, (g f).run P w = .ok (k f) w) → (l.mapM g).run P w = .ok (l.map k) w
 | [], _ => by simp
 | f :: l, hl => by
  rw [List.mapM_cons, Sem.run_bind, hl f (by simp), Result.andThen_ok, Sem.run_bind, run_mapM g k l (fun x hx => hl x (by simp [hx])), Result.andThen_ok]
  rfl

theorem build_sound (hT : TOK P T) {D : Dir} {ok : Nat → Prop} {ev : Operand → V} {ρ : Operand → Value} (hr : ∀ x, VRel D ok w (ev x) (ρ x)) {t : TypeId} (hs : (T t).size ≠ 0) (ps : Array (Nat × Operand)) {cs : List V}
  (hb : (∃ fs, (T t).kind = .str fs ∧ fillV (places T fs) (T t).zero (ps.toList.map fun p => (p.1, ev p.2)) = some cs ∧ ∀ f ∈ fs, (T f.2).size ≠ 0) ∨
   (∃ n e, (T t).kind = .arr n e ∧ (T e).size ≠ 0 ∧ fillV (fun j => some (j * (T e).size, (T e).size)) (T t).zero (ps.toList.map fun p => (p.1, ev p.2)) = some cs)) :
  ∃ u, (Instr.build t (ps.map fun (p : Nat × Operand) => (p.1, ρ p.2))).run P w = .ok u w ∧ VRel D ok w (.agg cs) u := by
 obtain ⟨h1, h2⟩ := parts_rel hr ps
 have hcr := zero_crel (w := w) (D := D) (ok := ok) hT hs
 have fin : ∀ c' : Array Value, CRel D ok w cs c' → VRel D ok w (.agg cs) (.agg c') := by
  intro c' hc
  have := VRel.agg (D := D) (ok := ok) (w := w) cs c'.toList (by simpa using hc.1) (fun u hu => by
    obtain ⟨j, hj⟩ := List.mem_iff_getElem?.1 hu
    have hjl : j < cs.length := by rw [← hc.1]; simpa using (List.getElem?_eq_some_iff.1 hj).1
    exact (hc.2 j cs[j] u (by simp [hjl]) (by simpa using hj)).1) (fun j x u hx hu => (hc.2 j x u hx (by simpa using hu)).2)
  simpa using this
 rcases hb with ⟨fs, hk, hf, hne⟩ | ⟨n, e, hk, hne, hf⟩
 ·obtain ⟨fields, hu, rfl⟩ := hT.str hk
  have hmap : (fields.mapM (m := Sem) fun f => do pure (f.offset, ← sizeOf f.type)).run P w = .ok (fields.map fun f => (f.offset, (T f.type).size)) w := by
   have key := run_mapM (P := P) (w := w) (fun f : Field => (do pure (f.offset, ← sizeOf f.type) : Sem (Nat × Nat))) (fun f => (f.offset, (T f.type).size)) fields.toList (fun f hf => by
    have := run_size (P := P) hT (hne (f.offset, f.type) (by simp only [List.mem_map]; exact ⟨f, hf, rfl⟩)) w
    simp [this])
   rw [Array.mapM_eq_mapM_toList, Sem.run_map, key]
   simp only [Result.andThen_ok]
   congr 1
   apply Array.ext'
   simp
  obtain ⟨c', h3, h4⟩ := fill_sound (place := fun j => (fields.map fun f => (f.offset, (T f.type).size))[j]?) (fun j q hq => by
   simp only [places, List.getElem?_map, Option.map_map] at hq
   simp only [Array.getElem?_map, ← hq]
   cases hj : fields[j]? with
   | none => rw [← Array.getElem?_toList] at hj; rw [hj]; rfl
   | some g => rw [← Array.getElem?_toList] at hj; rw [hj]; rfl) _ _ _ _ _ (by simp) h2 hcr hf
  refine ⟨.agg c', ?_, fin c' h4⟩
  simp only [Instr.build, Sem.run_bind, run_zero hT hs, run_und hu, Result.andThen_ok, hmap, h3]
  rfl
 ·obtain ⟨c', h3, h4⟩ := fill_sound (place := fun i => some (i * (T e).size, (T e).size)) (fun j q hq => hq) _ _ _ _ _ (by simp) h2 hcr hf
  refine ⟨.agg c', ?_, fin c' h4⟩
  simp only [Instr.build, Sem.run_bind, run_zero hT hs, run_und (hT.arr hk), Result.andThen_ok, run_size hT hne, h3]
  rfl

end

end Go.AM
end
section
namespace Go.AM
open Go

section
variable {P : Program} {T : Tab} {E : Env} {m : Locs} {h : List Ob} {w : World}

theorem map_some {α β : Type} {x : Option α} {f : α → β} {y : β} (h : x.map f = some y) : ∃ z, x = some z ∧ f z = y := by
 cases x with
 | none => cases h
 | some z => exact ⟨z, rfl, by simpa using h⟩

theorem append_arrT (hT : TOK P T) (R : HRel E m h w) {t t' ty e : TypeId} (hk : (T t).kind = .slc e) (ht' : slcOrStr P t') (hse : (T e).size ≠ 0) {o ep' off n : Nat} {es news : List (List V)} {x : V} {u u' : Value}
  (ho : h.getD o .unborn = .arr ep' (T e).size es) (hle : off + n ≤ es.length) (hvs : VRel (dirOf m h) (okc E m h) w (.sl o ep' off n) u) (hvx : VRel (dirOf m h) (okc E m h) w x u')
  (hn : elemsOf (T e).size (fun o => h.getD o .unborn) x = some news) (hroom : roomFor (n + news.length) (T e).bytes) :
  ∃ (base : Option Addr) (X : Prop), OutT P E m h w (Builtin.append_ #[t, t'] ty #[u, u']) (.sl o (ep' + 1) 0 (n + news.length)) (setOb h o (.arr (ep' + 1) (T e).size ((es.drop off).take n ++ news))) o base e X ∧
   (X → ∃ blk o0, m o = some (blk, o0) ∧ base = some ⟨blk, o0 + off * (T e).size, none⟩) := by
 have hz : ∀ a : Option Addr, Elems P (dirOf m h) (okc E m h) w (T e).size [] (.slice a 0 0) [] := fun a => elems_nil a 0
 have he1 : elemsOf (T e).size (fun o => h.getD o .unborn) (.sl o ep' off n) = some ((es.drop off).take n) := by
  simp only [elemsOf, ho]
  simp [hle]
 have hlen : ((es.drop off).take n).length = n := by simp; omega
 obtain ⟨us1, h1⟩ := elems_sound (P := P) R hvs he1
 have hd : ∀ d, deOf (m o) (h.getD o .unborn) = some d → ∀ l', ∃ d', deOf l' (.arr (ep' + 1) (T e).size ((es.drop off).take n ++ news)) = some d' ∧ DLe d d' := by
  rw [ho]
  intro d hd l'
  cases hd
  exact ⟨_, rfl, .later _ _ _ _ _ _ (Nat.lt_succ_self _)⟩
 cases hvs with
 | pure hp => cases hp
 | sl _ _ _ _ sz2 blk o0 cap cl e2 fr hD hn' hb hf =>
  rw [dir_arr ho] at hD
  simp only [Option.some.injEq, DE.arr.injEq, true_and] at hD
  obtain ⟨rfl, hm⟩ := hD
  obtain ⟨c', e', hc', hcz, hcs⟩ := arr_cells R ho hm
  rw [hc'] at hb
  cases hb
  have h1' : Elems P (dirOf m h) (okc E m h) w (T e).size ((es.drop off).take n) (.slice (some ⟨blk, o0 + off * (T e).size, none⟩) ((es.drop off).take n).length cap) us1 := by
   rw [hlen]; exact h1
  have := append_outT (P := P) (ty := ty) hT R hk ht' hse (base := some ⟨blk, o0 + off * (T e).size, none⟩) (sCap := cap) (o := o) (ep' := ep' + 1) h1' hvx hn (by rw [hlen]; exact hroom) hd
   (fun _ => .inr ⟨blk, o0 + off * (T e).size, cl, e2, rfl, by rw [ho]; trivial, ⟨o0, hm⟩, hc', by rw [Nat.add_mul] at hf; omega, fun i j x hx => by
    have hi : i < n := by
     rcases Nat.lt_or_ge i n with h | h
     ·exact h
     ·rw [List.getElem?_eq_none (by rw [hlen]; exact h)] at hx; cases hx
    have hx' : (es[off + i]?).bind (fun l => l[j]?) = some x := by
     rw [List.getElem?_take, if_pos hi, List.getElem?_drop] at hx
     exact hx
    have hob := R.obs o
    rw [ho, hm] at hob
    obtain ⟨_, _, _, c3, e3, hc3, _, hcs3⟩ := hob
    rw [hc'] at hc3
    cases hc3
    obtain ⟨u, h3, h4, h5⟩ := hcs3 (off + i) j x hx'
    exact ⟨u, by rw [show o0 + off * (T e).size + i * (T e).size + j = o0 + (off + i) * (T e).size + j by rw [Nat.add_mul]; omega]; exact h3, h4, h5⟩⟩)
  rw [hlen] at this
  exact ⟨_, _, this, fun _ => ⟨blk, o0, hm, rfl⟩⟩
 | sl0 _ _ _ sz2 loc a hD =>
  have := append_outT (P := P) (ty := ty) hT R hk ht' hse (base := a) (sCap := 0) (es1 := []) (o := o) (ep' := ep' + 1) (hz a) hvx hn (by simpa using hroom) (by simpa using hd)
   (fun hle => .inl ⟨rfl, rfl, List.eq_nil_of_length_eq_zero (by simpa using hle)⟩)
  have h2 : (es.drop off).take 0 ++ news = [] ++ news := by simp
  rw [h2]
  exact ⟨_, _, this, fun h => absurd h (by omega)⟩
 | slS _ _ _ _ _ d _ hD hst _ =>
  rw [dir_arr ho] at hD
  obtain rfl := Option.some.inj hD
  exact (stale_arr hst).elim

theorem setOb_setOb (h : List Ob) (o : Nat) (x y : Ob) : setOb (setOb h o x) o y = setOb h o y := by
 unfold setOb
 by_cases ho : o < h.length
 ·rw [if_pos ho, if_pos (by simpa using ho), if_pos ho, List.set_set]
 ·rw [if_neg ho, if_pos (by simp; omega), if_neg ho, List.set_append_right _ _ (by simp; omega)]
  congr 1
  rw [show o - (h ++ List.replicate (o - h.length) Ob.unborn).length = 0 by simp; omega]
  rfl

theorem elems_arr {sz : Nat} {x : V} {o ep : Nat} {e : TypeId} {es : List (List V)} (ho : h.getD o .unborn = .row e ep es) : elemsOf sz (fun i => (setOb h o (.arr ep 1 es)).getD i .unborn) x = elemsOf sz (fun i => h.getD i .unborn) x := by
 cases x with
 | sl o2 ep2 off n =>
  simp only [elemsOf, getD_setOb]
  by_cases h2 : o2 = o
  ·subst h2; rw [if_pos rfl, ho]
  ·rw [if_neg h2]
 | c v =>
  cases v <;> try rfl
  rename_i a n k
  cases a <;> try rfl
  cases n <;> try rfl
  cases k <;> rfl
 | _ => rfl

theorem append_row (hT : TOK P T) (R : HRel E m h w) {t t' ty e : TypeId} (hk : (T t).kind = .slc e) (ht' : slcOrStr P t') (hse : 1 = (T e).size) {o ep' n : Nat} {es news : List (List V)} {x : V} {u u' : Value}
  (ho : h.getD o .unborn = .row e ep' es) (hle : n ≤ es.length) (hvs : VRel (dirOf m h) (okc E m h) w (.sl o ep' 0 n) u) (hvx : VRel (dirOf m h) (okc E m h) w x u')
  (hn : elemsOf (T e).size (fun o => h.getD o .unborn) x = some news) (hroom : roomFor (n + news.length) (T e).bytes) :
  Out P E m h w (Builtin.append_ #[t, t'] ty #[u, u']) (.sl o (ep' + 1) 0 (n + news.length)) (setOb h o (.row e (ep' + 1) (es.take n ++ news))) := by
 obtain ⟨R', hd, hk'⟩ := R.toArr ho
 have ho' : (setOb h o (.arr ep' 1 es)).getD o .unborn = .arr ep' (T e).size es := by rw [getD_setOb, if_pos rfl, hse]
 obtain ⟨base, X, ⟨v, w', m', h1, h2, h3, h4, h5⟩, h6⟩ := append_arrT (P := P) (ty := ty) hT R' hk ht' (by omega) (off := 0) ho' (by omega) (by rw [hd, hk']; exact hvs) (by rw [hd, hk']; exact hvx) (by rw [elems_arr ho]; exact hn) hroom
 rw [setOb_setOb] at h2 h3 h4
 rw [List.drop_zero, ← hse] at h2 h3 h4
 obtain ⟨R2, hd2, hk2⟩ := h2.toRow (o := o) (e := e) (ep := ep' + 1) (es := es.take n ++ news) (by rw [getD_setOb, if_pos rfl]) (fun blk off hm => by
  rcases h5 blk off hm with h7 | ⟨hX, hb, hc⟩
  ·exact h7
  ·obtain ⟨blk2, o0, hm2, hb2⟩ := h6 hX
   rw [hb2] at hb
   cases hb
   have hob := R.obs o
   rw [ho, hm2] at hob
   obtain ⟨_, _, h8, c, hcc, _⟩ := hob
   subst h8
   exact ⟨by simp, hc c e (0, 0) hcc⟩)
 rw [setOb_setOb] at R2 hd2 hk2
 refine ⟨v, w', m', h1, R2, fun x y hxy => ?_, ?_⟩
 ·have := h3 x y (by rw [hd, hk']; exact hxy)
  rw [hd2, hk2]; exact this
 ·rw [hd2, hk2]; exact h4

theorem builtin_done (hT : TOK P T) (R : HRel E m h w) {ev : Operand → V} {ρ : Operand → Value} (hr : ∀ x, VRel (dirOf m h) (okc E m h) w (ev x) (ρ x)) {nx : Nat} (hnx : h.getD nx .unborn = .unborn)
  {b : Builtin} {c : Call} {ty : TypeId} {v : V} {upd : List (Nat × Ob)} {consts : Array Bool} (hs : builtinV T (fun o => h.getD o .unborn) nx b c.argTypes.toList (c.args.toList.map ev) = some (v, upd)) :
  Done P E m h w (builtin b c.argTypes ty consts (c.args.map ρ)) v upd := by
 have hargs : ∀ x, c.args.toList.map ev = [x] → ∃ u, c.args.map ρ = #[u] ∧ VRel (dirOf m h) (okc E m h) w x u := by
  intro x hx
  have hl := list_rel hr c.args.toList
  have : c.args.toList.length = 1 := by have := congrArg List.length hx; simpa using this
  match hq : c.args.toList, this with
  | [y], _ =>
   rw [hq] at hx
   refine ⟨ρ y, ?_, ?_⟩
   ·apply Array.ext'; simp [hq]
   ·have : ev y = x := by simpa using hx
    rw [← this]; exact hr y
 have hargs2 : ∀ x x', c.args.toList.map ev = [x, x'] → ∃ u u', c.args.map ρ = #[u, u'] ∧ VRel (dirOf m h) (okc E m h) w x u ∧ VRel (dirOf m h) (okc E m h) w x' u' := by
  intro x x' hx
  have : c.args.toList.length = 2 := by have := congrArg List.length hx; simpa using this
  match hq : c.args.toList, this with
  | [y, y'], _ =>
   rw [hq] at hx
   simp only [List.map_cons, List.map_nil, List.cons.injEq, and_true] at hx
   refine ⟨ρ y, ρ y', ?_, ?_, ?_⟩
   ·apply Array.ext'; simp [hq]
   ·rw [← hx.1]; exact hr y
   ·rw [← hx.2]; exact hr y'
 have htys2 : ∀ t t', c.argTypes.toList = [t, t'] → c.argTypes = #[t, t'] := by
  intro t t' ht
  apply Array.ext'
  simp [ht]
 unfold builtinV at hs
 split at hs
 ·-- len
  rename_i t tl x htys hx
  obtain ⟨u, hu, hv⟩ := hargs x hx
  have ht0 : c.argTypes[0]? = some t := by rw [← Array.getElem?_toList, htys]; rfl
  simp only [builtin, hu]
  split at hs
  ·rename_i u hk
   cases hs
   exact Done.of_same R ⟨_, lenStr_sound hT hk ht0 hv, .pure (.i _ _)⟩
  ·have hkk : ∃ e, (T t).kind = .slc e := ⟨_, by assumption⟩
   obtain ⟨e, hk⟩ := hkk
   split at hs
   ·rename_i n hn
    cases hs
    exact Done.of_same R ⟨_, len_sound hT hk ht0 hv hn, .pure (.i _ _)⟩
   ·cases hs
  ·cases hs
 ·-- append
  rename_i t t' s x htys hx
  obtain ⟨u, u', hu, hvs, hvx⟩ := hargs2 s x hx
  simp only [builtin, hu, htys2 t t' htys]
  have fin : ∀ e, (T t).kind = .slc e → (T e).size ≠ 0 → slcOrStr P t' → appendV e (T e) (fun o => h.getD o .unborn) nx s x = some (v, upd) →
    Done P E m h w (do pure (.value (← Builtin.append_ #[t, t'] ty #[u, u']))) v upd := by
   intro e hk hse ht' ha
   have hz : ∀ a : Option Addr, Elems P (dirOf m h) (okc E m h) w (T e).size [] (.slice a 0 0) [] := fun a => elems_nil a 0
   have hempty : ∀ (a : Option Addr) (news : List (List V)), elemsOf (T e).size (fun o => h.getD o .unborn) x = some news → roomFor news.length (T e).bytes →
     Out P E m h w (Builtin.append_ #[t, t'] ty #[.slice a 0 0, u']) (.sl nx 0 0 news.length) (setOb h nx (newOb e (T e).size (T e).kind news)) := by
    intro a news hn hroom
    have := append_outT (P := P) (ty := ty) hT R hk ht' hse (base := a) (sCap := 0) (es1 := []) (o := nx) (ep' := 0) (hz a) hvx hn (by simpa using hroom)
     (by rw [hnx]; intro d hd; cases hd) (fun hle => .inl ⟨rfl, rfl, List.eq_nil_of_length_eq_zero (by simpa using hle)⟩)
    simp only [List.length_nil, Nat.zero_add, List.nil_append] at this
    unfold newOb
    split
    ·rename_i hu8
     obtain ⟨v1, w', m', h1, h2, h3, h4, h5⟩ := this
     rw [hu8.2] at h2 h3 h4
     obtain ⟨R2, hd2, hk2⟩ := h2.toRow (o := nx) (e := e) (ep := 0) (es := news) (by rw [getD_setOb, if_pos rfl]) (fun blk off hm => by
      rcases h5 blk off hm with h7 | ⟨hX, _⟩
      ·exact h7
      ·omega)
     rw [setOb_setOb] at R2 hd2 hk2
     refine ⟨v1, w', m', h1, R2, fun x y hxy => ?_, ?_⟩
     ·rw [hd2, hk2]; exact h3 x y hxy
     ·rw [hd2, hk2]; exact h4
    ·exact this.out
   unfold appendV at ha
   split at ha
   ·cases ha
   ·rename_i news hn
    split at ha
    ·split at ha
     ·rename_i hroom
      cases ha
      rw [hvs.c_inv]
      exact Done.of_out (hempty none news hn hroom)
     ·cases ha
    ·split at ha
     ·rename_i hroom
      cases ha
      cases hvs with
      | pure hp => cases hp; exact Done.of_out (hempty _ news hn hroom)
     ·cases ha
    ·rename_i o ep off n
     dsimp only at ha
     split at ha
     ·rename_i ep' sz es ho
      split at ha
      ·rename_i hc
       obtain ⟨rfl, rfl, hle, hroom⟩ := hc
       cases ha
       obtain ⟨base, X, H, _⟩ := append_arrT (P := P) (ty := ty) hT R hk ht' hse ho hle hvs hvx hn hroom
       exact Done.of_out H.out
      ·cases ha
     ·rename_i e' ep' es ho
      split at ha
      ·rename_i hc
       obtain ⟨rfl, rfl, hse1, rfl, hle, hroom⟩ := hc
       cases ha
       exact Done.of_out (append_row (P := P) (ty := ty) hT R hk ht' hse1 ho hle hvs hvx hn hroom)
      ·cases ha
     ·cases ha
    ·cases ha
  split at hs
  ·rename_i e e' hk hk'
   split at hs
   ·rename_i hse
    exact fin e hk hse (.inl ⟨e', hT.slc hk'⟩) hs
   ·cases hs
  ·rename_i e hk hk'
   split at hs
   ·rename_i hse
    exact fin e hk hse (.inr (hT.string hk')) hs
   ·cases hs
  ·cases hs
 ·-- copy
  rename_i t t' d x htys hx
  obtain ⟨u, u', hu, hvd, hvx⟩ := hargs2 d x hx
  simp only [builtin, hu, htys2 t t' htys]
  split at hs
  ·rename_i e hk
   split at hs
   ·rename_i hse
    unfold copyV at hs
    split at hs
    ·rename_i news o ep off n hn
     dsimp only at hs
     split at hs
     ·rename_i ep' sz es ho
      split at hs
      ·rename_i hc
       obtain ⟨rfl, rfl, hle⟩ := hc
       cases hs
       exact Done.of_out (copy_out hT R hk hse ho hvd hle hvx hn)
      ·cases hs
     ·cases hs
    ·cases hs
   ·cases hs
  ·cases hs
 ·-- clear
  rename_i t d htys hx
  obtain ⟨u, hu, hvd⟩ := hargs d hx
  have ht1 : c.argTypes = #[t] := by apply Array.ext'; simp [htys]
  simp only [builtin, hu, ht1]
  split at hs
  ·rename_i e hk
   split at hs
   ·rename_i hse
    unfold clearV at hs
    split at hs
    ·rename_i o ep off n
     dsimp only at hs
     split at hs
     ·rename_i ep' sz es ho
      split at hs
      ·rename_i hc
       obtain ⟨rfl, rfl, hle⟩ := hc
       cases hs
       exact Done.of_out (clear_out hT R hk hse ho hvd hle)
      ·cases hs
     ·cases hs
    ·cases hs
   ·cases hs
  ·cases hs
 ·-- min
  obtain ⟨r, hr1, heq⟩ := map_some hs
  cases heq
  obtain ⟨u, h1, h2⟩ := minmax_sound (P := P) (by simp) (list_rel hr c.args.toList) hr1 c.argTypes ty
  have he : (c.args.toList.map ρ).toArray = c.args.map ρ := by apply Array.ext'; simp
  rw [he] at h1
  exact Done.of_same R ⟨u, by simpa using h1, h2⟩
 ·-- max
  obtain ⟨r, hr1, heq⟩ := map_some hs
  cases heq
  obtain ⟨u, h1, h2⟩ := minmax_sound (P := P) (by simp) (list_rel hr c.args.toList) hr1 c.argTypes ty
  have he : (c.args.toList.map ρ).toArray = c.args.map ρ := by apply Array.ext'; simp
  rw [he] at h1
  exact Done.of_same R ⟨u, by simpa using h1, h2⟩
 ·cases hs

end

end Go.AM
end
section
namespace Go.AM
open Go

section
variable {P : Program} {T : Tab} {E : Env} {m : Locs} {h : List Ob} {w : World}

theorem step_done (hT : TOK P T) (R : HRel E m h w) {ev : Operand → V} {ρ : Operand → Value} (hr : ∀ x, VRel (dirOf m h) (okc E m h) w (ev x) (ρ x)) {nx : Nat} (hnx : h.getD nx .unborn = .unborn)
  (o : Oper) {v : V} {upd : List (Nat × Ob)} (hs : step T o.op ev (fun o => h.getD o .unborn) nx = some (v, upd)) : Done P E m h w (execOp ρ o) v upd := by
 obtain ⟨dst, op, type, pos, after, guard⟩ := o
 dsimp only at hs
 unfold step at hs
 unfold execOp
 dsimp only
 split at hs
 ·-- move
  cases hs; exact Done.value R (hr _)
 ·-- assign
  cases hs; exact Done.value R (hr _)
 ·-- pick
  rename_i x y z
  split at hs
  ·rename_i p q r hp hq hrr
   cases hs
   have h1 := hr x; rw [hp] at h1
   have h2 := hr y; rw [hq] at h2
   have h3 := hr z; rw [hrr] at h3
   dsimp only
   refine ⟨.value (if p then ρ y else ρ z), w, m, ?_, R, fun _ _ h => h, .inr ⟨_, rfl, ?_⟩⟩
   ·rw [h1.b_inv]; cases p <;> simp [asBool]
   ·cases p
    ·exact h3
    ·exact h2
  ·rename_i q r hp hq
   cases hs
   have h1 := hr x; rw [hp] at h1
   dsimp only
   refine ⟨.value (ρ y), w, m, ?_, R, fun _ _ h => h, .inr ⟨_, rfl, hr y⟩⟩
   rw [h1.b_inv]; simp [asBool]
  ·rename_i q r hp hq
   cases hs
   have h1 := hr x; rw [hp] at h1
   dsimp only
   refine ⟨.value (ρ z), w, m, ?_, R, fun _ _ h => h, .inr ⟨_, rfl, hr z⟩⟩
   rw [h1.b_inv]; simp [asBool]
  ·cases hs
 ·-- alloc
  rename_i t
  split at hs
  ·rename_i hc
   cases hs
   by_cases hv : vkind T t (T t).kind = true
   ·rw [if_pos hv]; exact Done.of_out (allocVar_out hT R hc (hT.zlen hc) hnx)
   ·rw [if_neg hv]; exact Done.of_out (alloc_out hT R hc (hT.zlen hc) hnx)
  ·cases hs
 ·-- box
  rename_i t x
  split at hs
  ·rename_i cs hcs
   split at hs
   ·rename_i hc
    cases hs
    exact Done.of_out (box_out hT R hc.1 hnx (hr x) hcs hc.2)
   ·cases hs
  ·cases hs
 ·-- build
  rename_i t ps
  split at hs
  ·rename_i hsz
   split at hs
   ·rename_i fs hk
    split at hs
    ·rename_i hall
     obtain ⟨cs, hcs, heq⟩ := map_some hs
     cases heq
     exact Done.of_same R (build_sound hT hr hsz ps (.inl ⟨fs, hk, hcs, fun f hf => by simpa using List.all_eq_true.1 hall f hf⟩))
    ·cases hs
   ·rename_i n e hk
    split at hs
    ·rename_i he
     obtain ⟨cs, hcs, heq⟩ := map_some hs
     cases heq
     exact Done.of_same R (build_sound hT hr hsz ps (.inr ⟨n, e, hk, he, hcs⟩))
    ·cases hs
   ·cases hs
  ·cases hs
 ·-- buildSlice
  rename_i t n ps
  split at hs
  ·rename_i e hk
   split at hs
   ·rename_i hc
    split at hs
    ·rename_i cs hf
     cases hs
     obtain ⟨h1, h2⟩ := parts_rel hr ps
     have hlen := fillV_length _ _ _ hf
     rw [List.length_flatten] at hlen
     have hcl : cs.length = n * (T e).size := by rw [hlen]; simp [hT.zlen hc.1]
     exact Done.of_out (buildSlice_out hT R hk hc.1 (hT.zlen hc.1) hc.2 hnx h1 h2 hf hcl)
    ·cases hs
   ·cases hs
  ·cases hs
 ·-- load
  rename_i t x
  split at hs
  ·rename_i hsz
   obtain ⟨u, hu, heq⟩ := map_some hs
   cases heq
   exact Done.of_same R (ld_sound hT R hsz (hr x) hu)
  ·cases hs
 ·-- store
  rename_i t x y
  split at hs
  ·rename_i hsz
   obtain ⟨⟨o', ob'⟩, hu, heq⟩ := map_some hs
   cases heq
   exact Done.of_unit (st_sound hT R hsz (hr x) (hr y) hu)
  ·cases hs
 ·-- nilCheck
  rename_i x
  have hx := hr x
  split at hs
  ·rename_i hq
   cases hs
   rw [hq] at hx
   have : ∃ a, ρ x = .pointer (some a) := by
    cases hu : ρ x <;> rw [hu] at hx <;> cases hx <;> first | exact ⟨_, rfl⟩ | (rename_i hp; cases hp)
   obtain ⟨a, ha⟩ := this
   refine ⟨.value (ρ x), w, m, ?_, R, fun _ _ h => h, .inr ⟨_, rfl, hx⟩⟩
   dsimp only
   rw [ha]; rfl
  ·rename_i cs hq
   cases hs
   rw [hq] at hx
   obtain ⟨blk, off, ha, _⟩ := rp_cells hx
   refine ⟨.value (ρ x), w, m, ?_, R, fun _ _ h => h, .inr ⟨_, rfl, hx⟩⟩
   dsimp only
   rw [ha]; rfl
  ·rename_i f cap hq
   cases hs
   rw [hq] at hx
   obtain ⟨us, ha, _⟩ := hx.fn_inv
   refine ⟨.value (ρ x), w, m, ?_, R, fun _ _ h => h, .inr ⟨_, rfl, hx⟩⟩
   dsimp only
   rw [ha]; rfl
  ·rename_i o' hq
   cases hs
   rw [hq] at hx
   have : ∃ a, ρ x = .map (some a) := by
    cases hu : ρ x <;> rw [hu] at hx <;> cases hx <;> first | exact ⟨_, rfl⟩ | (rename_i hp; cases hp)
   obtain ⟨a, ha⟩ := this
   refine ⟨.value (ρ x), w, m, ?_, R, fun _ _ h => h, .inr ⟨_, rfl, hx⟩⟩
   dsimp only
   rw [ha]; rfl
  ·cases hs
 ·-- binOp
  rename_i op t x y t'
  obtain ⟨u, hu, heq⟩ := map_some hs
  cases heq
  exact Done.of_same R (bin_sound hT x y (hr x) (hr y) hu)
 ·-- unOp
  rename_i op t x
  obtain ⟨u, hu, heq⟩ := map_some hs
  cases heq
  exact Done.of_same R (un_sound (hr x) hu)
 ·-- convert
  rename_i src dst x
  split at hs
  ·rename_i hsz
   obtain ⟨i, d, _, _, _, _, hd, _⟩ := hT.get hsz
   have hx := hr x
   split at hs
   ·rename_i k k' n hk hq
    cases hs
    rw [hq] at hx
    refine Done.of_same R ⟨_, ?_, .pure (.i _ _)⟩
    rw [hx.i_inv]
    simp [convert, run_und hd, run_und (hT.int hk), Conv.intToInt]
   ·rename_i u hk hq
    cases hs
    rw [hq] at hx
    obtain ⟨y, hy, rfl⟩ := hx.s_inv
    refine Done.of_same R ⟨.string y, ?_, by rw [← hy]; exact hx⟩
    rw [hy]
    simp only [convert, Sem.run_bind, run_und hd, run_und (hT.string hk), Result.andThen_ok]
    rfl
   ·rename_i hk hno
    split at hs
    ·rename_i e hke
     split at hs
     ·rename_i es he1 he2
      obtain ⟨l, hl, heq⟩ := map_some hs
      cases heq
      obtain ⟨u, h1, h2⟩ := bytes_sound (P := P) R hx he2 (fun l h => hno l h) hl
      refine Done.of_same R ⟨u, ?_, h2⟩
      obtain ⟨a, n, c, hval⟩ := elems_val hx he2 (fun l h => hno l h)
      rw [hval] at h1 ⊢
      rw [run_convert_bytes_string w src dst e a n c (hT.slc hke) (hT.int he1) (hT.string hk)]
      exact h1
     ·cases hs
    ·cases hs
   ·cases hs
  ·cases hs
 ·-- makeFunc
  rename_i f first cap
  split at hs
  ·rename_i h0
   cases hs
   refine Done.value R ?_ |> fun z => z
   have h1 : first.map ρ = #[] := Array.eq_empty_of_size_eq_zero (by simpa using h0)
   have h2 : cap.map ρ = (cap.toList.map ρ).toArray := by apply Array.ext'; simp
   rw [h1, h2]
   exact .fn f _ _ (by simp) (list_rel hr cap.toList)
  ·split at hs
   ·rename_i h0
    cases hs
    refine Done.value R ?_ |> fun z => z
    have h1 : cap.map ρ = #[] := Array.eq_empty_of_size_eq_zero (by simpa using h0)
    have h2 : first.map ρ = (first.toList.map ρ).toArray := by apply Array.ext'; simp
    rw [h1, h2]
    exact .bm f _ _ (by simp) (list_rel hr first.toList)
   ·cases hs
 ·-- makeMap
  rename_i t
  split at hs
  ·rename_i kt et hk
   split at hs
   ·cases hs
    exact Done.of_out (makeMap_out R hnx _)
   ·cases hs
  ·cases hs
 ·-- makeSlice
  rename_i t l c
  split at hs
  ·rename_i e kl n kc mm hk hl hc
   split at hs
   ·rename_i hcond
    obtain ⟨h1, h2, h3, h4⟩ := hcond
    cases hs
    have hl' := hr l; rw [hl] at hl'
    have hc' := hr c; rw [hc] at hc'
    dsimp only
    rw [hl'.i_inv, hc'.i_inv]
    exact Done.of_out (makeSlice_out hT R hk h1 (hT.zlen h1) hnx _ _ n mm h2 h3 h4)
   ·cases hs
  ·cases hs
 ·-- slice
  rename_i t x lo hi mx
  have hx := hr x
  split at hs
  ·rename_i u hk hq
   rw [hq] at hx
   split at hs
   ·rename_i hh hb
    split at hs
    ·rename_i l hb2
     cases hs
     exact Done.of_same R (slcStr_sound hT hr hk hx hb hb2)
    ·cases hs
   ·cases hs
  ·rename_i e o' ep off n hk hq
   rw [hq] at hx
   split at hs
   ·rename_i hse
    split at hs
    ·split at hs
     ·rename_i hh hb
      split at hs
      ·rename_i l hb2
       split at hs
       ·rename_i ep' sz es ho
        split at hs
        ·rename_i hc
         obtain ⟨rfl, rfl⟩ := hc
         cases hs
         exact Done.of_same R (slcOwn_sound hT hr hk hse hx ho hb hb2)
        ·cases hs
       ·cases hs
      ·cases hs
     ·cases hs
    ·cases hs
   ·cases hs
  ·rename_i e sz es hk hq
   rw [hq] at hx
   split at hs
   ·rename_i hc
    obtain ⟨hse, rfl⟩ := hc
    split at hs
    ·split at hs
     ·rename_i hh hb
      split at hs
      ·rename_i l hb2
       cases hs
       exact Done.of_same R (slcRo_sound hT hr hk hse hx hb hb2)
      ·cases hs
     ·cases hs
    ·split at hs
     ·cases hs
      exact Done.of_same R (slcZ_sound hT hr hk hse hx (by assumption) (by assumption) (by assumption))
     ·cases hs
   ·cases hs
  ·rename_i e hk hq
   rw [hq] at hx
   split at hs
   ·rename_i hse
    split at hs
    ·rename_i h1 h2
     cases hs
     dsimp only
     rw [hx.c_inv]
     exact Done.of_same R ⟨_, slcNil_sound hT hr hk hse h1 h2, .pure (.c _ rfl)⟩
    ·cases hs
   ·cases hs
  ·cases hs
 ·-- fieldAddr
  rename_i t x f
  split at hs
  ·rename_i fs hk
   split at hs
   ·rename_i off ty hf
    split at hs
    ·rename_i hsz
     obtain ⟨u, hu, heq⟩ := map_some hs
     cases heq
     exact Done.of_same R (fieldAddr_sound hT hk hf hsz (hr x) hu)
    ·cases hs
   ·cases hs
  ·cases hs
 ·-- field
  rename_i t x f
  have hx := hr x
  split at hs
  ·rename_i fs cs hk hq
   rw [hq] at hx
   split at hs
   ·rename_i off ty hf
    split at hs
    ·rename_i hc
     obtain ⟨u, hu, heq⟩ := map_some hs
     cases heq
     exact Done.of_same R (field_sound hT hk hf hc.1 hx hc.2 hu)
    ·cases hs
   ·cases hs
  ·cases hs
 ·-- indexAddr
  rename_i t x ix
  have hi := hr ix
  split at hs
  ·rename_i e k n hk hq
   rw [hq] at hi
   split at hs
   ·rename_i hse
    obtain ⟨u, hu, heq⟩ := map_some hs
    cases heq
    dsimp only
    rw [hi.i_inv]
    exact Done.of_same R (indexAddr_sound hT R hk hse (hr x) hu)
   ·cases hs
  ·rename_i len e k n hk hq
   rw [hq] at hi
   split at hs
   ·rename_i hc
    obtain ⟨u, hu, heq⟩ := map_some hs
    cases heq
    dsimp only
    rw [hi.i_inv]
    exact Done.of_same R (indexArr_sound hT hk hc.1 hc.2.1 hc.2.2 (hr x) hu)
   ·cases hs
  ·cases hs
 ·-- index
  rename_i t x ix
  have hx := hr x
  have hi := hr ix
  split at hs
  ·rename_i len e cs k n hk hq1 hq2
   rw [hq1] at hx
   rw [hq2] at hi
   split at hs
   ·rename_i hc
    obtain ⟨u, hu, heq⟩ := map_some hs
    cases heq
    dsimp only
    rw [hi.i_inv]
    exact Done.of_same R (index_sound hT hk hc.1 hc.2.1 hc.2.2.1 hx hc.2.2.2 hu)
   ·cases hs
  ·rename_i u k n hk hq1 hq2
   rw [hq1] at hx
   rw [hq2] at hi
   split at hs
   ·rename_i hc
    cases hs
    dsimp only
    rw [hi.i_inv]
    exact Done.of_same R (indexStr_sound hT hk hc.1 hc.2 hx)
   ·cases hs
  ·cases hs
 ·-- lookup
  rename_i t x y ok
  have hx := hr x
  have hy := hr y
  split at hs
  ·rename_i kt et hk
   split at hs
   ·rename_i o' hq
    rw [hq] at hx
    split at hs
    ·rename_i k f ho
     split at hs
     ·rename_i key hkey
      split at hs
      ·rename_i hc
       cases hs
       exact Done.of_same R (lookup_sound hT R hk hc.2.1 hc.1 ho hx (keyOf_rel hy hkey) ok)
      ·cases hs
     ·cases hs
    ·cases hs
   ·cases hs
  ·cases hs
 ·-- mapUpdate
  rename_i t x y v'
  have hx := hr x
  have hy := hr y
  split at hs
  ·rename_i kt et hk
   split at hs
   ·rename_i o' hq
    rw [hq] at hx
    split at hs
    ·rename_i k f ho
     split at hs
     ·rename_i key hkey
      split at hs
      ·rename_i hc
       cases hs
       exact Done.of_unit (update_out hT R hk hc ho hx (keyOf_rel hy hkey) (hr v'))
      ·cases hs
     ·cases hs
    ·cases hs
   ·cases hs
  ·cases hs
 ·-- insert
  rename_i t x y v'
  have hx := hr x
  have hy := hr y
  split at hs
  ·rename_i kt et hk
   split at hs
   ·rename_i o' hq
    rw [hq] at hx
    split at hs
    ·rename_i k f ho
     split at hs
     ·rename_i key hkey
      split at hs
      ·rename_i hc
       cases hs
       exact Done.of_unit (update_out hT R hk hc ho hx (keyOf_rel hy hkey) (hr v'))
      ·cases hs
     ·cases hs
    ·cases hs
   ·cases hs
  ·cases hs
 ·-- extract
  rename_i x j
  have hx := hr x
  split at hs
  ·rename_i vs hq
   rw [hq] at hx
   obtain ⟨u, hu, heq⟩ := map_some hs
   cases heq
   obtain ⟨us, h1, h2, h3⟩ := hx.tup_inv
   have hj : j < us.length := by rw [h2]; exact (List.getElem?_eq_some_iff.1 hu).1
   refine Done.of_same R ⟨us[j], ?_, h3 j _ _ hu (by simp [hj])⟩
   rw [h1]
   simp [Instr.extract, hj]
  ·cases hs
 ·-- call of a builtin
  rename_i c
  split at hs
  ·rename_i b hc
   dsimp only
   have : (do let d ← resolve ρ c type; invoke d.target d.args : Sem Next) = builtin b c.argTypes type (c.args.map fun | .const _ => true | _ => false) (c.args.map ρ) := by
    unfold resolve
    rw [hc]
    rfl
   rw [this]
   exact builtin_done hT R hr hnx hs
  ·cases hs
 ·cases hs

end

end Go.AM
end
section
namespace Go.AM
open Go

def ren0 (μ : Nat → Option Nat) : V → V
 | .ptr o ep ix fl => match μ o with
  | some o' => .ptr o' ep ix fl
  | none => .junk
 | .sl o ep off n => match μ o with
  | some o' => .sl o' ep off n
  | none => .junk
 | .mp o => match μ o with
  | some o' => .mp o'
  | none => .junk
 | .fn f cs => match cs with
  | [] => .fn f []
  | _ :: _ => .junk
 | .bm f cs => match cs with
  | [] => .bm f []
  | _ :: _ => .junk
 | .agg _ => .junk
 | .tup _ => .junk
 | x => x

def ren1 (μ : Nat → Option Nat) : V → V
 | .agg cs => .agg (cs.map (ren0 μ))
 | .fn f cs => .fn f (cs.map (ren0 μ))
 | .bm f cs => .bm f (cs.map (ren0 μ))
 | x => ren0 μ x

def ren (μ : Nat → Option Nat) : V → V
 | .tup vs => .tup (vs.map (ren1 μ))
 | x => ren1 μ x

def Ob.ren (μ : Nat → Option Nat) : Ob → Ob
 | .arr ep sz es => .arr ep sz (es.map fun e => e.map (ren0 μ))
 | .mp k f => .mp k fun key => (f key).map (ren1 μ)
 | .var t cs => .var t (cs.map (ren0 μ))
 | .row e ep es => .row e ep (es.map fun x => x.map (ren0 μ))
 | x => x

def nr0 : V → Prop
 | .ro _ _ => False
 | .rp _ => False
 | _ => True
def nr1 : V → Prop
 | .agg cs => ∀ x ∈ cs, nr0 x
 | .fn _ cs => ∀ x ∈ cs, nr0 x
 | .bm _ cs => ∀ x ∈ cs, nr0 x
 | x => nr0 x
def nr : V → Prop
 | .tup vs => ∀ x ∈ vs, nr1 x
 | x => nr1 x
def Ob.nr : Ob → Prop
 | .arr _ _ es => ∀ e ∈ es, ∀ x ∈ e, nr0 x
 | .mp _ f => ∀ k v, f k = some v → nr1 v
 | .var _ cs => ∀ x ∈ cs, nr0 x
 | .row _ _ es => ∀ e ∈ es, ∀ x ∈ e, nr0 x
 | _ => True

section
variable {D D' : Dir} {ok ok' : Nat → Prop} {w : World} {μ : Nat → Option Nat}

theorem nr0_prel {x : V} (h : nr0 x) {u : Value} (hp : PRel ok w x u) : PRel ok' w x u := by
 cases hp <;> first | exact .i _ _ | exact .b _ | exact .s _ | exact .c _ (by assumption) | exact .z _ | exact h.elim

theorem ren0_rel (hμ : ∀ o o', μ o = some o' → ∀ d, D o = some d → D' o' = some d) {x : V} {u : Value} (hp : (∀ x u, PRel ok w x u → PRel ok' w x u) ∨ nr0 x) (h : VRel D ok w x u) : VRel D' ok' w (ren0 μ x) u := by
 have hp : ∀ u, PRel ok w x u → PRel ok' w x u := by
  rcases hp with hp | hp
  ·exact hp x
  ·exact fun u => nr0_prel hp
 cases h with
 | pure h => cases h <;> exact .pure (hp _ (by first | exact .i _ _ | exact .b _ | exact .s _ | exact .c _ (by assumption) | exact .z _ | exact .ro0 _ _ _ | (exact .ro _ _ _ _ _ _ (by assumption) (by assumption) (by assumption) (by assumption) (by assumption) (by assumption) (by assumption)) | (exact .rp _ _ _ _ (by assumption) (by assumption) (by assumption) (by assumption))))
 | junk u => exact .junk u
 | agg => exact .junk _
 | tup => exact .junk _
 | fn f cs us hl hr =>
  cases cs with
  | nil =>
   have : us = [] := List.eq_nil_of_length_eq_zero hl
   subst this
   exact .fn f [] [] rfl (fun j x u hx => by simp at hx)
  | cons => exact .junk _
 | bm f cs us hl hr =>
  cases cs with
  | nil =>
   have : us = [] := List.eq_nil_of_length_eq_zero hl
   subst this
   exact .bm f [] [] rfl (fun j x u hx => by simp at hx)
  | cons => exact .junk _
 | ptr o ep ix fl sz blk off hD =>
  simp only [ren0]
  split
  ·exact .ptr _ ep ix fl sz blk off (hμ _ _ (by assumption) _ hD)
  ·exact .junk _
 | ptrS o ep ix fl d a hD hs =>
  simp only [ren0]
  split
  ·exact .ptrS _ ep ix fl d a (hμ _ _ (by assumption) _ hD) hs
  ·exact .junk _
 | sl o ep off n sz blk o0 cap cl e fr hD hn hb hf =>
  simp only [ren0]
  split
  ·exact .sl _ ep off n sz blk o0 cap cl e fr (hμ _ _ (by assumption) _ hD) hn hb hf
  ·exact .junk _
 | sl0 o ep off sz l a hD =>
  simp only [ren0]
  split
  ·exact .sl0 _ ep off sz l a (hμ _ _ (by assumption) _ hD)
  ·exact .junk _
 | slS o ep off n cap d a hD hs ha =>
  simp only [ren0]
  split
  ·exact .slS _ ep off n cap d a (hμ _ _ (by assumption) _ hD) hs ha
  ·exact .junk _
 | mp o k blk off hD =>
  simp only [ren0]
  split
  ·exact .mp _ k blk off (hμ _ _ (by assumption) _ hD)
  ·exact .junk _
 | mpS o b hD =>
  simp only [ren0]
  split
  ·exact .mpS _ b (hμ _ _ (by assumption) _ hD)
  ·exact .junk _

theorem list_map_rel {f : V → V} {cs : List V} (hf : ∀ x ∈ cs, ∀ u, VRel D ok w x u → VRel D' ok' w (f x) u) {us : List Value} (hr : ∀ (j : Nat) (x : V) (u : Value), cs[j]? = some x → us[j]? = some u → VRel D ok w x u) :
  ∀ (j : Nat) (x : V) (u : Value), (cs.map f)[j]? = some x → us[j]? = some u → VRel D' ok' w x u := by
 intro j x u hx hu
 simp only [List.getElem?_map, Option.map_eq_some_iff] at hx
 obtain ⟨y, hy, rfl⟩ := hx
 exact hf _ (List.mem_of_getElem? hy) _ (hr j y u hy hu)

theorem ren1_rel (hμ : ∀ o o', μ o = some o' → ∀ d, D o = some d → D' o' = some d) {x : V} {u : Value} (hp : (∀ x u, PRel ok w x u → PRel ok' w x u) ∨ nr1 x) (h : VRel D ok w x u) : VRel D' ok' w (ren1 μ x) u := by
 cases x with
 | agg cs =>
  obtain ⟨us, rfl, hl, h1, hr⟩ := h.agg_inv
  exact .agg _ us (by simp [hl]) h1 (list_map_rel (fun x hx u h => ren0_rel hμ (hp.imp id fun h => h x hx) h) hr)
 | fn f cs =>
  obtain ⟨us, rfl, hl, hr⟩ := h.fn_inv
  exact .fn f _ us (by simp [hl]) (list_map_rel (fun x hx u h => ren0_rel hμ (hp.imp id fun h => h x hx) h) hr)
 | bm f cs =>
  obtain ⟨us, rfl, hl, hr⟩ := h.bm_inv
  exact .bm f _ us (by simp [hl]) (list_map_rel (fun x hx u h => ren0_rel hμ (hp.imp id fun h => h x hx) h) hr)
 | _ => exact ren0_rel hμ hp h

theorem ren_rel (hμ : ∀ o o', μ o = some o' → ∀ d, D o = some d → D' o' = some d) {x : V} {u : Value} (hp : (∀ x u, PRel ok w x u → PRel ok' w x u) ∨ nr x) (h : VRel D ok w x u) : VRel D' ok' w (ren μ x) u := by
 cases x with
 | tup cs =>
  obtain ⟨us, rfl, hl, hr⟩ := h.tup_inv
  exact .tup _ us (by simp [hl]) (list_map_rel (fun x hx u h => ren1_rel hμ (hp.imp id fun h => h x hx) h) hr)
 | _ => exact ren1_rel hμ hp h

theorem Ob.ren_ok {loc : Option (Nat × Nat)} (hμ : ∀ o o', μ o = some o' → ∀ d, D o = some d → D' o' = some d) {ob : Ob} (hp : (∀ x u, PRel ok w x u → PRel ok' w x u) ∨ ob.nr) (h : OKo D ok w loc ob) : OKo D' ok' w loc (ob.ren μ) := by
 cases ob with
 | arr ep sz es =>
  obtain ⟨h1, h2, h3, h4⟩ := h
  refine ⟨?_, h2, by simpa using h3, ?_⟩
  ·intro x hx
   simp only [List.mem_map] at hx
   obtain ⟨y, hy, rfl⟩ := hx
   simpa using h1 y hy
  ·cases loc with
   | none =>
    show es.map _ = []
    rw [show es = [] from h4]; rfl
   | some l =>
    obtain ⟨blk, off⟩ := l
    obtain ⟨c, e, hc, hsz, hcs⟩ := h4
    refine ⟨c, e, hc, by simpa using hsz, fun i j x hx => ?_⟩
    simp only [List.getElem?_map] at hx
    cases hi : es[i]? with
    | none => rw [hi] at hx; cases hx
    | some l =>
     rw [hi] at hx
     simp only [Option.map_some, Option.bind_some, List.getElem?_map, Option.map_eq_some_iff] at hx
     obtain ⟨y, hy, rfl⟩ := hx
     obtain ⟨u, h5, h6, h7⟩ := hcs i j y (by rw [hi]; exact hy)
     exact ⟨u, h5, h6, ren0_rel hμ (hp.imp id fun h => h l (List.mem_of_getElem? hi) y (List.mem_of_getElem? hy)) h7⟩
 | mp k f =>
  obtain ⟨blk, es, clock, rfl, hc, hm⟩ := h
  refine ⟨blk, es, clock, rfl, hc, hm.keys, hm.nodup, ?_, ?_⟩
  ·intro n v hf
   simp only [Option.map_eq_some_iff] at hf
   obtain ⟨v', hf', rfl⟩ := hf
   obtain ⟨e, he, hk, hv⟩ := hm.has n v' hf'
   exact ⟨e, he, hk, ren1_rel hμ (hp.imp id fun h => h _ _ hf') hv⟩
  ·intro n hf
   simp only [Option.map_eq_none_iff] at hf
   exact hm.none n hf
 | row e ep es =>
  obtain ⟨h1, h3, h4⟩ := h
  refine ⟨?_, by simpa using h3, ?_⟩
  ·intro x hx
   simp only [List.mem_map] at hx
   obtain ⟨y, hy, rfl⟩ := hx
   simpa using h1 y hy
  ·cases loc with
   | none =>
    show es.map _ = []
    rw [show es = [] from h4]; rfl
   | some l =>
    obtain ⟨blk, off⟩ := l
    obtain ⟨h0, c, hc, hsz, hcs⟩ := h4
    refine ⟨h0, c, hc, by simpa using hsz, fun i j x hx => ?_⟩
    simp only [List.getElem?_map] at hx
    cases hi : es[i]? with
    | none => rw [hi] at hx; cases hx
    | some l =>
     rw [hi] at hx
     simp only [Option.map_some, Option.bind_some, List.getElem?_map, Option.map_eq_some_iff] at hx
     obtain ⟨y, hy, rfl⟩ := hx
     obtain ⟨u, h5, h6, h7⟩ := hcs i j y (by rw [hi]; exact hy)
     exact ⟨u, h5, h6, ren0_rel hμ (hp.imp id fun h => h l (List.mem_of_getElem? hi) y (List.mem_of_getElem? hy)) h7⟩
 | var t cs =>
  obtain ⟨blk, c, rfl, hc, hsz, hne, hcs⟩ := h
  refine ⟨blk, c, rfl, hc, by simpa using hsz, by simpa using hne, fun j x hx => ?_⟩
  simp only [List.getElem?_map, Option.map_eq_some_iff] at hx
  obtain ⟨y, hy, rfl⟩ := hx
  obtain ⟨u, h5, h6, h7⟩ := hcs j y hy
  exact ⟨u, h5, h6, ren0_rel hμ (hp.imp id fun h => h y (List.mem_of_getElem? hy)) h7⟩
 | gone => trivial
 | unborn => trivial

end

def ownOf (m : Locs) (h : List Ob) (b : Nat) : Prop := ∃ o off, live (h.getD o .unborn) ∧ m o = some (b, off)

def FOK (P : Program) (f : FuncId) : Prop := ∀ (vs : Array Value) (w : World), (callFunc f vs).run P w = .ok (.enter f vs) w

def laidTabs : List (String × IntKind × List Int) := [("internal/strconv.uint64pow10", .u64, Lib.pow10Tab)]

def GOK (P : Program) (w : World) (own : Nat → Prop) : Prop := ∀ e ∈ laidTabs, Lib.TabIs P w e.1 e.2.1 e.2.2 ∧ ∀ g, P.globalNamed e.1 = some g → g < w.heap.size ∧ ¬ own g

theorem GOK.next {P : Program} {E : Env} {m : Locs} {h : List Ob} {w : World} (hG : GOK P E.w0 E.own) (R : HRel E m h w) {own : Nat → Prop} (ho : ∀ b, own b → ∃ o off, live (h.getD o .unborn) ∧ m o = some (b, off)) : GOK P w own := by
 intro e he
 obtain ⟨h1, h2⟩ := hG e he
 refine ⟨?_, fun g hg => ?_⟩
 ·unfold Lib.TabIs World.var? at h1 ⊢
  cases hq : P.globalNamed e.1 with
  | none => rw [hq] at h1; cases h1
  | some g =>
   obtain ⟨hlt, hno⟩ := h2 g hq
   rw [hq] at h1
   simp only [Option.bind_some] at h1 ⊢
   rw [R.ext.block g hlt hno]
   exact h1
 ·obtain ⟨hlt, hno⟩ := h2 g hg
  refine ⟨Nat.lt_of_lt_of_le hlt R.ext.size, fun hw => ?_⟩
  obtain ⟨o, off, hl, hm⟩ := ho g hw
  rcases (R.blk o g off hl hm).1 with h3 | h3
  ·exact hno h3
  ·omega

def QC (P : Program) (f : FuncId) (args : List V) (objs : List Ob) (r : V) (objs' : List Ob) : Prop :=
 FOK P f ∧ ∀ (w : World) (vs : Array Value) (m : Locs) (ok : Nat → Prop),
  GOK P w (ownOf m objs) → HRel ⟨w, ownOf m objs, ok, dirOf m objs, []⟩ m objs w → vs.size = args.length →
  (∀ (j : Nat) (x : V) (u : Value), args[j]? = some x → vs[j]? = some u → VRel (dirOf m objs) (okc ⟨w, ownOf m objs, ok, dirOf m objs, []⟩ m objs) w x u) →
  Calls P f vs w fun e w' => ∃ v m', e = .returned v ∧ HRel ⟨w, ownOf m objs, ok, dirOf m objs, []⟩ m' objs' w' ∧
   VRel (dirOf m' objs') (okc ⟨w, ownOf m objs, ok, dirOf m objs, []⟩ m' objs') w' r v

def toIdx : List Nat → Nat → Option Nat
 | [], _ => none
 | r :: rs, o => if o = r then some 0 else (toIdx rs o).map (· + 1)

theorem toIdx_some : ∀ {l : List Nat} {o i : Nat}, toIdx l o = some i → l[i]? = some o
 | [], _, _, h => by cases h
 | r :: rs, o, i, h => by
  unfold toIdx at h
  split at h
  ·cases h; rename_i he; rw [he]; rfl
  ·obtain ⟨j, hj, rfl⟩ := map_some h
   simpa using toIdx_some hj

theorem toIdx_of : ∀ {l : List Nat} {o i : Nat}, l.Nodup → l[i]? = some o → toIdx l o = some i
 | [], _, _, _, h => by cases h
 | r :: rs, o, i, hn, h => by
  obtain ⟨h1, h2⟩ := List.nodup_cons.1 hn
  unfold toIdx
  cases i with
  | zero => simp at h; rw [if_pos h.symm]
  | succ i =>
   have h3 : rs[i]? = some o := by simpa using h
   rw [if_neg, toIdx_of h2 h3]
   ·rfl
   ·rintro rfl; exact h1 (List.mem_of_getElem? h3)

theorem live_ren {μ : Nat → Option Nat} {ob : Ob} : live (ob.ren μ) ↔ live ob := by cases ob <;> exact Iff.rfl
theorem deOf_ren {μ : Nat → Option Nat} {ob : Ob} (l : Option (Nat × Nat)) : deOf l (ob.ren μ) = deOf l ob := by cases ob <;> first | rfl | simp [Ob.ren, deOf]

def passed (h : List Ob) (ρ : List Nat) : List Ob := ρ.map fun o => (h.getD o .unborn).ren (toIdx ρ)

theorem passed_get (h : List Ob) (ρ : List Nat) (i : Nat) : (passed h ρ).getD i .unborn = match ρ[i]? with
  | some o => (h.getD o .unborn).ren (toIdx ρ)
  | none => .unborn := by
 simp only [passed, List.getD, List.getElem?_map]
 cases ρ[i]? <;> rfl

def okV (E : Env) (m : Locs) (h : List Ob) (vs : List Nat) (b : Nat) : Prop := okc E m h b ∨ ∃ o ∈ vs, ∃ off, live (h.getD o .unborn) ∧ m o = some (b, off)

def inner (E : Env) (m : Locs) (h : List Ob) (ρ vs : List Nat) (w : World) : Env :=
 ⟨w, ownOf (fun i => (ρ[i]?).bind m) (passed h ρ), okV E m h vs, dirOf (fun i => (ρ[i]?).bind m) (passed h ρ), []⟩

section
variable {E : Env} {m : Locs} {h : List Ob} {w : World}

theorem HRel.pass (R : HRel E m h w) {ρ vs : List Nat} (hn : ρ.Nodup) (hd : ∀ o ∈ vs, o ∉ ρ) :
  HRel (inner E m h ρ vs w) (fun i => (ρ[i]?).bind m) (passed h ρ) w ∧
  (∀ x u, PRel (okV E m h vs) w x u → PRel (okc (inner E m h ρ vs w) (fun i => (ρ[i]?).bind m) (passed h ρ)) w x u) ∧
  (∀ x u, VRel (dirOf m h) (okc E m h) w x u → VRel (dirOf (fun i => (ρ[i]?).bind m) (passed h ρ)) (okc (inner E m h ρ vs w) (fun i => (ρ[i]?).bind m) (passed h ρ)) w (ren (toIdx ρ) x) u) := by
 have hlive : ∀ i, live ((passed h ρ).getD i .unborn) → ∃ o, ρ[i]? = some o ∧ live (h.getD o .unborn) := by
  intro i hl
  rw [passed_get] at hl
  cases ho : ρ[i]? with
  | none => rw [ho] at hl; exact hl.elim
  | some o => rw [ho] at hl; exact ⟨o, rfl, live_ren.1 hl⟩
 have hμ : ∀ o i, toIdx ρ o = some i → ∀ d, dirOf m h o = some d → dirOf (fun i => (ρ[i]?).bind m) (passed h ρ) i = some d := by
  intro o i hi d hdd
  have ho := toIdx_some hi
  rw [dirOf_eq, passed_get, ho]
  simp only [Option.bind_some]
  rw [deOf_ren, ← dirOf_eq]
  exact hdd
 have hok : ∀ b, okV E m h vs b → okc (inner E m h ρ vs w) (fun i => (ρ[i]?).bind m) (passed h ρ) b := by
  intro b hb
  refine ⟨.inl hb, fun i blk off hl hm => ?_⟩
  obtain ⟨o, ho, hlo⟩ := hlive i hl
  simp only [ho, Option.bind_some] at hm
  rcases hb with hb | ⟨o', ho', off', hl', hm'⟩
  ·exact hb.2 o blk off hlo hm
  ·rintro rfl
   have := R.inj o o' blk off off' hlo hl' hm hm'
   subst this
   exact hd o ho' (List.mem_of_getElem? ho)
 have hp : ∀ x u, PRel (okV E m h vs) w x u → PRel (okc (inner E m h ρ vs w) (fun i => (ρ[i]?).bind m) (passed h ρ)) w x u :=
  fun x u hpr => hpr.mono (Nat.le_refl _) fun b _ hb => ⟨hok b hb, rfl⟩
 have hp0 : ∀ x u, PRel (okc E m h) w x u → PRel (okc (inner E m h ρ vs w) (fun i => (ρ[i]?).bind m) (passed h ρ)) w x u :=
  fun x u hpr => hpr.mono (Nat.le_refl _) fun b _ hb => ⟨hok b (.inl hb), rfl⟩
 refine ⟨⟨WExt.refl _ _, ?_, ?_, ?_, ?_, ?_⟩, hp, fun x u hv => ren_rel hμ (.inl hp0) hv⟩
 ·intro i blk off hl hm
  refine ⟨.inl ⟨i, off, hl, hm⟩, ?_⟩
  obtain ⟨o, ho, hlo⟩ := hlive i hl
  simp only [ho, Option.bind_some] at hm
  exact (R.blk o blk off hlo hm).2
 ·intro i j blk off off' hl hl' hm hm'
  obtain ⟨o, ho, hlo⟩ := hlive i hl
  obtain ⟨o', ho', hlo'⟩ := hlive j hl'
  simp only [ho, ho', Option.bind_some] at hm hm'
  have := R.inj o o' blk off off' hlo hlo' hm hm'
  subst this
  have h1 := toIdx_of hn ho
  rw [toIdx_of hn ho'] at h1
  exact (Option.some.inj h1).symm
 ·intro i
  rw [passed_get]
  cases ho : ρ[i]? with
  | none => trivial
  | some o =>
   simp only [Option.bind_some]
   exact Ob.ren_ok hμ (.inl hp0) (R.obs o)
 ·intro i blk off hl hm
  refine .inl ?_
  show ∃ d, dirOf (fun i => (ρ[i]?).bind m) (passed h ρ) i = some d ∧ d.blk = some blk
  rw [dirOf_eq]
  cases hq : (passed h ρ).getD i .unborn with
  | arr ep sz es => exact ⟨_, rfl, by rw [hm]; rfl⟩
  | mp k f => exact ⟨_, rfl, by rw [hm]; rfl⟩
  | var t cs => exact ⟨_, rfl, by rw [hm]; rfl⟩
  | row e ep es => exact ⟨_, rfl, by rw [hm]; rfl⟩
  | gone => rw [hq] at hl; exact hl.elim
  | unborn => rw [hq] at hl; exact hl.elim
 ·exact fun o d hdd => ⟨d, hdd, .refl d⟩

end

end Go.AM
end
section
namespace Go.AM
open Go

section
variable {E : Env} {m : Locs} {h : List Ob} {w : World}

theorem HRel.back (R : HRel E m h w) {ρ ks vs : List Nat} (hd : ∀ o ∈ vs, o ∉ ρ) (hks : ks.Nodup) (hpre : ∀ i, i < ρ.length → ks[i]? = ρ[i]?) (_hlen : ρ.length ≤ ks.length)
  {objs' : List Ob} (hol : objs'.length = ks.length) (hnew : ∀ i o, ρ.length ≤ i → ks[i]? = some o → h.getD o .unborn = .unborn)
  {w' : World} {m1' : Locs} (H : HRel (inner E m h ρ vs w) m1' objs' w') {h' : List Ob}
  (hh : ∀ x, h'.getD x .unborn = match toIdx ks x with
   | some i => (objs'.getD i .unborn).ren (fun i => ks[i]?)
   | none => h.getD x .unborn)
  (hvs : vs = [] ∨ ∀ ob ∈ objs', ob.nr) :
  ∃ m'', HRel E m'' h' w' ∧ (∀ x u, VRel (dirOf m h) (okc E m h) w x u → VRel (dirOf m'' h') (okc E m'' h') w' x u) ∧
   (∀ x u, (vs = [] ∨ nr x) → VRel (dirOf m1' objs') (okc (inner E m h ρ vs w) m1' objs') w' x u → VRel (dirOf m'' h') (okc E m'' h') w' (ren (fun i => ks[i]?) x) u) := by
 let m'' : Locs := fun x => match toIdx ks x with
  | some i => m1' i
  | none => m x
 have hm'' : ∀ x, m'' x = match toIdx ks x with
  | some i => m1' i
  | none => m x := fun _ => rfl
 have hlive : ∀ i, live ((passed h ρ).getD i .unborn) → ∃ o, ρ[i]? = some o ∧ live (h.getD o .unborn) := by
  intro i hl
  rw [passed_get] at hl
  cases ho : ρ[i]? with
  | none => rw [ho] at hl; exact hl.elim
  | some o => rw [ho] at hl; exact ⟨o, rfl, live_ren.1 hl⟩
 have hown : ∀ b, ownOf (fun i => (ρ[i]?).bind m) (passed h ρ) b → ∃ o off, o ∈ ρ ∧ live (h.getD o .unborn) ∧ m o = some (b, off) := by
  rintro b ⟨i, off, hl, hm⟩
  obtain ⟨o, ho, hlo⟩ := hlive i hl
  simp only [ho, Option.bind_some] at hm
  exact ⟨o, off, List.mem_of_getElem? ho, hlo, hm⟩
 have hinks : ∀ o, o ∈ ρ → ∃ i, toIdx ks o = some i ∧ ρ[i]? = some o := by
  intro o ho
  obtain ⟨i, hi⟩ := List.mem_iff_getElem?.1 ho
  have hil : i < ρ.length := (List.getElem?_eq_some_iff.1 hi).1
  exact ⟨i, toIdx_of hks (by rw [hpre i hil]; exact hi), hi⟩
 -- a block of a callee's object, seen from outside
 have hcb : ∀ i blk off, live (objs'.getD i .unborn) → m1' i = some (blk, off) → (∃ o off', o ∈ ρ ∧ live (h.getD o .unborn) ∧ m o = some (blk, off')) ∨ w.heap.size ≤ blk := by
  intro i blk off hl hm
  rcases (H.blk i blk off hl hm).1 with h1 | h1
  ·obtain ⟨o, off', h2, h3, h4⟩ := hown blk h1
   exact .inl ⟨o, off', h2, h3, h4⟩
  ·exact .inr h1
 have hl' : ∀ x, live (h'.getD x .unborn) → (∃ i, toIdx ks x = some i ∧ live (objs'.getD i .unborn) ∧ m'' x = m1' i) ∨ (toIdx ks x = none ∧ live (h.getD x .unborn) ∧ m'' x = m x) := by
  intro x hl
  rw [hh x] at hl
  rw [hm'' x]
  cases hi : toIdx ks x with
  | none => rw [hi] at hl; exact .inr ⟨rfl, hl, rfl⟩
  | some i => rw [hi] at hl; exact .inl ⟨i, rfl, live_ren.1 hl, rfl⟩
 have hmix : ∀ i x blk off off', live (objs'.getD i .unborn) → m1' i = some (blk, off) → toIdx ks x = none → live (h.getD x .unborn) → m x = some (blk, off') → False := by
  intro i x blk off off' hl hm hx hlx hmx
  rcases hcb i blk off hl hm with ⟨o, off2, ho, hlo, hmo⟩ | hge
  ·have := R.inj o x blk off2 off' hlo hlx hmo hmx
   subst this
   obtain ⟨j, hj, _⟩ := hinks o ho
   rw [hj] at hx; cases hx
  ·have := (R.blk x blk off' hlx hmx).2
   omega
 have hoko : ∀ b, b < w.heap.size → okc E m h b → okc E m'' h' b := by
  intro b hb hok
  refine ⟨hok.1, fun x blk off hl hm => ?_⟩
  rcases hl' x hl with ⟨i, hi, hli, hme⟩ | ⟨hi, hlx, hme⟩
  ·rw [hme] at hm
   rcases hcb i blk off hli hm with ⟨o, off', _, hlo, hmo⟩ | hge
   ·exact hok.2 o blk off' hlo hmo
   ·omega
  ·rw [hme] at hm
   exact hok.2 x blk off hlx hm
 have hunch : ∀ b, b < w.heap.size → ¬ (∃ o off, o ∈ ρ ∧ live (h.getD o .unborn) ∧ m o = some (b, off)) → w'.heap[b]? = w.heap[b]? :=
  fun b hb hn => H.ext.block b hb fun ho => hn (hown b ho)
 have hokn : ∀ b, okc E m h b → ¬ (∃ o off, o ∈ ρ ∧ live (h.getD o .unborn) ∧ m o = some (b, off)) := by
  rintro b hb ⟨o, off, _, hl, hm⟩
  exact hb.2 o b off hl hm rfl
 have hdirk : ∀ x i, toIdx ks x = some i → dirOf m'' h' x = dirOf m1' objs' i := by
  intro x i hi
  rw [dirOf_eq, dirOf_eq, hh x, hm'' x, hi]
  exact deOf_ren _
 have hdirn : ∀ x, toIdx ks x = none → dirOf m'' h' x = dirOf m h x := by
  intro x hi
  rw [dirOf_eq, dirOf_eq, hh x, hm'' x, hi]
 have hdir : ∀ x d, dirOf m h x = some d → ∃ d', dirOf m'' h' x = some d' ∧ DLe d d' := by
  intro x d hdx
  cases hi : toIdx ks x with
  | none => exact ⟨d, by rw [hdirn x hi]; exact hdx, .refl d⟩
  | some i =>
   rw [hdirk x i hi]
   have hki := toIdx_some hi
   by_cases hir : i < ρ.length
   ·refine H.dle i d ?_
    show dirOf (fun i => (ρ[i]?).bind m) (passed h ρ) i = some d
    rw [hpre i hir] at hki
    rw [dirOf_eq, passed_get, hki]
    simp only [Option.bind_some]
    rw [deOf_ren, ← dirOf_eq]
    exact hdx
   ·have := hnew i x (by omega) hki
    rw [dirOf_eq, this] at hdx
    cases hdx
 have hold : ∀ x u, VRel (dirOf m h) (okc E m h) w x u → VRel (dirOf m'' h') (okc E m'' h') w' x u := by
  intro x u hv
  exact hv.mono hdir H.ext.size (fun b hb hok => ⟨hoko b hb hok, hunch b hb (hokn b hok)⟩) H.ext.shape
 have hokin : vs = [] → ∀ b, okc (inner E m h ρ vs w) m1' objs' b → okc E m'' h' b := by
  rintro rfl b ⟨hb, hno⟩
  have hb' : okc E m h b ∨ w.heap.size ≤ b := by
   rcases hb with hb | hb
   ·rcases hb with hb | ⟨o, ho, _⟩
    ·exact .inl hb
    ·cases ho
   ·exact .inr hb
  refine ⟨?_, fun x blk off hl hm => ?_⟩
  ·rcases hb' with hb | hb
   ·exact hb.1
   ·exact .inr (Nat.le_trans R.ext.size hb)
  ·rcases hl' x hl with ⟨i, hi, hli, hme⟩ | ⟨hi, hlx, hme⟩
   ·rw [hme] at hm
    exact hno i blk off hli hm
   ·rw [hme] at hm
    rcases hb' with hb | hb
    ·exact hb.2 x blk off hlx hm
    ·have := (R.blk x blk off hlx hm).2
     omega
 have hpin : vs = [] → ∀ x u, PRel (okc (inner E m h ρ vs w) m1' objs') w' x u → PRel (okc E m'' h') w' x u :=
  fun hv x u hp => hp.mono (Nat.le_refl _) fun b _ hb => ⟨hokin hv b hb, rfl⟩
 have hμ : ∀ i o, (fun i => ks[i]?) i = some o → ∀ d, dirOf m1' objs' i = some d → dirOf m'' h' o = some d := by
  intro i o hi d hdd
  rw [hdirk o i (toIdx_of hks hi)]
  exact hdd
 refine ⟨m'', ⟨?_, ?_, ?_, ?_, ?_, ?_⟩, hold, fun x u hx hv => ren_rel hμ (hx.imp hpin id) hv⟩
 ·refine R.ext.trans' H.ext ?_
  intro b hb hob
  obtain ⟨o, off, _, hlo, hmo⟩ := hown b hob
  rcases (R.blk o b off hlo hmo).1 with h1 | h1
  ·exact h1
  ·omega
 ·intro x blk off hl hm
  rcases hl' x hl with ⟨i, hi, hli, hme⟩ | ⟨hi, hlx, hme⟩
  ·rw [hme] at hm
   refine ⟨?_, (H.blk i blk off hli hm).2⟩
   rcases hcb i blk off hli hm with ⟨o, off', _, hlo, hmo⟩ | hge
   ·exact (R.blk o blk off' hlo hmo).1
   ·exact .inr (Nat.le_trans R.ext.size hge)
  ·rw [hme] at hm
   obtain ⟨h1, h2⟩ := R.blk x blk off hlx hm
   exact ⟨h1, Nat.lt_of_lt_of_le h2 H.ext.size⟩
 ·intro x y blk off off' hlx hly hmx hmy
  rcases hl' x hlx with ⟨i, hi, hli, hme⟩ | ⟨hi, hlx', hme⟩ <;> rcases hl' y hly with ⟨j, hj, hlj, hme'⟩ | ⟨hj, hly', hme'⟩
  ·rw [hme] at hmx; rw [hme'] at hmy
   have := H.inj i j blk off off' hli hlj hmx hmy
   subst this
   have h1 := toIdx_some hi
   rw [toIdx_some hj] at h1
   exact (Option.some.inj h1).symm
  ·rw [hme] at hmx; rw [hme'] at hmy
   exact (hmix i y blk off off' hli hmx hj hly' hmy).elim
  ·rw [hme] at hmx; rw [hme'] at hmy
   exact (hmix j x blk off' off hlj hmy hi hlx' hmx).elim
  ·rw [hme] at hmx; rw [hme'] at hmy
   exact R.inj x y blk off off' hlx' hly' hmx hmy
 ·intro x
  rw [hh x, hm'' x]
  cases hi : toIdx ks x with
  | none =>
   refine (R.obs x).mono hold fun blk off hm hl => ?_
   obtain ⟨_, h2⟩ := R.blk x blk off hl hm
   refine hunch blk h2 ?_
   rintro ⟨o, off', ho, hlo, hmo⟩
   have := R.inj o x blk off' off hlo hl hmo hm
   subst this
   obtain ⟨j, hj, _⟩ := hinks o ho
   rw [hj] at hi; cases hi
  | some i =>
   have hil : i < objs'.length := by rw [hol]; exact (List.getElem?_eq_some_iff.1 (toIdx_some hi)).1
   refine Ob.ren_ok hμ ?_ (H.obs i)
   refine hvs.imp hpin fun hv => hv _ ?_
   simp [List.getD, hil]
 ·intro x blk off hl hm
  rcases hl' x hl with ⟨i, hi, hli, hme⟩ | ⟨hi, hlx, hme⟩
  ·rw [hme] at hm
   rcases H.new i blk off hli hm with ⟨d, hd0, hdb⟩ | hge
   ·have hd1 : dirOf (fun i => (ρ[i]?).bind m) (passed h ρ) i = some d := hd0
    rw [dirOf_eq, passed_get] at hd1
    cases ho : ρ[i]? with
    | none => rw [ho] at hd1; cases hd1
    | some o =>
     rw [ho] at hd1
     simp only [Option.bind_some] at hd1
     rw [deOf_ren] at hd1
     have hil : i < ρ.length := (List.getElem?_eq_some_iff.1 ho).1
     have hxo : x = o := by
      have := toIdx_some hi
      rw [hpre i hil, ho] at this
      exact (Option.some.inj this).symm
     subst hxo
     cases hob : h.getD x .unborn with
     | arr ep sz es =>
      rw [hob] at hd1
      cases hd1
      cases hmx : m x with
      | none => rw [hmx] at hdb; cases hdb
      | some l =>
       obtain ⟨b, off2⟩ := l
       rw [hmx] at hdb
       cases hdb
       exact R.new x _ off2 (by rw [hob]; trivial) hmx
     | mp k f =>
      rw [hob] at hd1
      cases hd1
      cases hmx : m x with
      | none => rw [hmx] at hdb; cases hdb
      | some l =>
       obtain ⟨b, off2⟩ := l
       rw [hmx] at hdb
       cases hdb
       exact R.new x _ off2 (by rw [hob]; trivial) hmx
     | row e ep es =>
      rw [hob] at hd1
      cases hd1
      cases hmx : m x with
      | none => rw [hmx] at hdb; cases hdb
      | some l =>
       obtain ⟨b, off2⟩ := l
       rw [hmx] at hdb
       cases hdb
       exact R.new x _ off2 (by rw [hob]; trivial) hmx
     | var t cs =>
      rw [hob] at hd1
      cases hd1
      cases hmx : m x with
      | none => rw [hmx] at hdb; cases hdb
      | some l =>
       obtain ⟨b, off2⟩ := l
       rw [hmx] at hdb
       cases hdb
       exact R.new x _ off2 (by rw [hob]; trivial) hmx
     | gone => rw [hob] at hd1; cases hd1; cases hdb
     | unborn => rw [hob] at hd1; cases hd1
   ·exact .inr (Nat.le_trans R.ext.size hge)
  ·rw [hme] at hm
   exact R.new x blk off hlx hm
 ·intro x d hdx
  obtain ⟨d1, h1, h2⟩ := R.dle x d hdx
  obtain ⟨d2, h3, h4⟩ := hdir x d1 h1
  exact ⟨d2, h3, h2.trans h4⟩

end

def callUpd (ks : List Nat) (objs' : List Ob) : List (Nat × Ob) := ks.zip (objs'.map fun ob => ob.ren fun i => ks[i]?)

theorem updL_get : ∀ (ks : List Nat) (obs : List Ob) (h : List Ob) (x : Nat), ks.Nodup → obs.length = ks.length → (updL h (ks.zip obs)).getD x .unborn = match toIdx ks x with
      | some i => obs.getD i .unborn
      | none => h.getD x .unborn
 | [], obs, h, x, _, _ => by simp [updL, toIdx]
 | k :: ks, [], h, x, _, hl => by simp at hl
 | k :: ks, ob :: obs, h, x, hn, hl => by
  obtain ⟨h1, h2⟩ := List.nodup_cons.1 hn
  have ih := updL_get ks obs (setOb h k ob) x h2 (by simpa using hl)
  have he : updL h ((k :: ks).zip (ob :: obs)) = updL (setOb h k ob) (ks.zip obs) := rfl
  have hc : toIdx (k :: ks) x = if x = k then some 0 else (toIdx ks x).map (· + 1) := rfl
  rw [he, ih, hc]
  by_cases hx : x = k
  ·subst hx
   rw [if_pos rfl]
   have : toIdx ks x = none := by
    cases hq : toIdx ks x with
    | none => rfl
    | some j => exact absurd (List.mem_of_getElem? (toIdx_some hq)) h1
   rw [this, getD_setOb, if_pos rfl]
   rfl
  ·rw [if_neg hx]
   cases hq : toIdx ks x with
   | none => simp only [Option.map_none]; rw [getD_setOb, if_neg hx]
   | some j => simp

end Go.AM
end
section
namespace Go.AM
open Go

def hid : V → List Nat
 | .ptr o _ _ _ => [o]
 | .sl o _ _ _ => [o]
 | .mp o => [o]
 | _ => []

def touchOf (op : Op) (ev : Operand → V) : List Nat :=
 match op with
 | .load _ x | .store _ x _ | .convert _ _ x | .slice _ x _ _ _ | .indexAddr _ x _ | .lookup _ x _ _ | .mapUpdate _ x _ _ | .insert _ x _ _ => hid (ev x)
 | .call c => c.args.toList.flatMap fun x => hid (ev x)
 | _ => []

section
variable {T : Tab} {lk lk' : Nat → Ob}

theorem ld_congr {ti : TI} {x : V} (h : ∀ o ∈ hid x, lk o = lk' o) : ld ti lk x = ld ti lk' x := by
 cases x with
 | ptr o ep ix fl => have h1 := h o (by simp [hid]); simp only [ld, h1]
 | _ => rfl

theorem stv_congr {ti : TI} {x y : V} (h : ∀ o ∈ hid x, lk o = lk' o) : stv ti lk x y = stv ti lk' x y := by
 cases x with
 | ptr o ep ix fl => have h1 := h o (by simp [hid]); unfold stv; cases cellsOf y <;> simp only [h1]
 | _ => rfl

theorem elems_congr {sz : Nat} {x : V} (h : ∀ o ∈ hid x, lk o = lk' o) : elemsOf sz lk x = elemsOf sz lk' x := by
 cases x with
 | sl o ep off n => have h1 := h o (by simp [hid]); simp only [elemsOf, h1]
 | c v =>
  cases v <;> try rfl
  rename_i a n k
  cases a <;> try rfl
  cases n <;> try rfl
  cases k <;> rfl
 | _ => rfl

theorem idx_congr {sz : Nat} {n : Int} {x : V} (h : ∀ o ∈ hid x, lk o = lk' o) : idxV sz lk n x = idxV sz lk' n x := by
 cases x with
 | sl o ep off n => have h1 := h o (by simp [hid]); simp only [idxV, h1]
 | _ => rfl

theorem append_congr {e : TypeId} {ti : TI} {nx : Nat} {s x : V} (h : ∀ o ∈ hid s, lk o = lk' o) (h' : ∀ o ∈ hid x, lk o = lk' o) : appendV e ti lk nx s x = appendV e ti lk' nx s x := by
 unfold appendV
 rw [elems_congr h']
 cases elemsOf ti.size lk' x with
 | none => rfl
 | some news =>
  cases s with
  | sl o ep off n => simp only; rw [h o (by simp [hid])]
  | c v =>
   cases v <;> try rfl
   rename_i a n k
   cases a <;> try rfl
   cases n <;> try rfl
   cases k <;> rfl
  | _ => rfl

theorem copy_congr {ti : TI} {s x : V} (h : ∀ o ∈ hid s, lk o = lk' o) (h' : ∀ o ∈ hid x, lk o = lk' o) : copyV ti lk s x = copyV ti lk' s x := by
 unfold copyV
 rw [elems_congr h']
 cases elemsOf ti.size lk' x with
 | none => rfl
 | some news =>
  cases s with
  | sl o ep off n => simp only; rw [h o (by simp [hid])]
  | _ => rfl

theorem clear_congr {ti : TI} {s : V} (h : ∀ o ∈ hid s, lk o = lk' o) : clearV ti lk s = clearV ti lk' s := by
 unfold clearV
 cases s with
 | sl o ep off n => simp only; rw [h o (by simp [hid])]
 | _ => rfl
theorem builtin_congr {nx : Nat} {b : Builtin} {tys : List TypeId} {args : List V} (h : ∀ x ∈ args, ∀ o ∈ hid x, lk o = lk' o) : builtinV T lk nx b tys args = builtinV T lk' nx b tys args := by
 unfold builtinV
 split
 ·rfl
 ·rename_i s x
  have h1 : ∀ (e : TypeId) (ti : TI), appendV e ti lk nx s x = appendV e ti lk' nx s x := fun e ti => append_congr (h s (by simp)) (h x (by simp))
  simp only [h1]
 ·rename_i d x
  have h1 : ∀ (ti : TI), copyV ti lk d x = copyV ti lk' d x := fun ti => copy_congr (h d (by simp)) (h x (by simp))
  simp only [h1]
 ·rename_i d
  have h1 : ∀ (ti : TI), clearV ti lk d = clearV ti lk' d := fun ti => clear_congr (h d (by simp))
  simp only [h1]
 ·rfl
 ·rfl
 ·rfl

theorem step_congr {op : Op} {ev ev' : Operand → V} {nx : Nat} (he : ∀ x ∈ op.operands, ev x = ev' x) (hl : ∀ o ∈ touchOf op ev, lk o = lk' o) : step T op ev lk nx = step T op ev' lk' nx := by
 have hps : ∀ ps : Array (Nat × Operand), (∀ x ∈ ps.toList.map (·.2), ev x = ev' x) → (ps.toList.map fun p => (p.1, ev p.2)) = ps.toList.map fun p => (p.1, ev' p.2) := by
  intro ps hp
  apply List.map_congr_left
  intro p hp'
  rw [hp p.2 (List.mem_map.2 ⟨p, hp', rfl⟩)]
 have hbound : ∀ (a b : Nat) (x : Option Operand), (∀ y, x = some y → ev y = ev' y) → boundOf ev a b x = boundOf ev' a b x := by
  intro a b x hxx
  cases x with
  | none => rfl
  | some y => simp only [boundOf]; rw [hxx y rfl]
 cases op <;> simp only [Op.operands] at he <;> simp only [step]
 case move x => rw [he x (by simp)]
 case assign x => rw [he x (by simp)]
 case pick x y z => rw [he x (by simp), he y (by simp), he z (by simp)]
 case box t x => rw [he x (by simp)]
 case build t ps => rw [hps ps (fun x hx => he x (by simpa using hx))]
 case buildSlice t n ps => rw [hps ps (fun x hx => he x (by simpa using hx))]
 case load t x =>
  have hx : ∀ o ∈ hid (ev' x), lk o = lk' o := by rw [← he x (by simp)]; exact hl
  rw [he x (by simp), ld_congr hx]
 case store t x y =>
  have hx : ∀ o ∈ hid (ev' x), lk o = lk' o := by rw [← he x (by simp)]; exact hl
  rw [he x (by simp), he y (by simp), stv_congr hx]
 case nilCheck x => rw [he x (by simp)]
 case binOp op t x y t' => rw [he x (by simp), he y (by simp)]
 case unOp op t x => rw [he x (by simp)]
 case convert s d x =>
  have hx : ∀ o ∈ hid (ev' x), lk o = lk' o := by rw [← he x (by simp)]; exact hl
  have h1 := elems_congr (sz := 1) hx
  rw [he x (by simp)]
  generalize ev' x = y at h1 ⊢
  split
  ·cases (T d).kind <;> first | rfl | (cases y <;> first | rfl | simp only [h1])
  ·rfl
 case makeFunc f first cap =>
  cases f <;> simp only
  rw [List.map_congr_left (l := cap.toList) (fun x hx => he x (by simp; exact .inr (by simpa using hx))), List.map_congr_left (l := first.toList) (fun x hx => he x (by simp; exact .inl (by simpa using hx)))]
 case makeMap t r => cases r <;> rfl
 case makeSlice t l c => rw [he l (by simp), he c (by simp)]
 case slice t x lo hi mx =>
  have hlo : ∀ y, lo = some y → ev y = ev' y := fun y hy => he y (by simp [hy])
  have hhi : ∀ y, hi = some y → ev y = ev' y := fun y hy => he y (by simp [hy])
  have hmx : ∀ y, mx = some y → ev y = ev' y := fun y hy => he y (by simp [hy])
  have hmx' : ∀ y, mx = some y → ∀ a b, boundOf ev a b (some y) = boundOf ev' a b (some y) := fun y hy a b => hbound a b _ (fun z hz => by cases hz; exact hmx y hy)
  have hb1 : ∀ a b, boundOf ev a b lo = boundOf ev' a b lo := fun a b => hbound a b _ hlo
  have hb2 : ∀ a b, boundOf ev a b hi = boundOf ev' a b hi := fun a b => hbound a b _ hhi
  have hxx : ∀ o ∈ hid (ev' x), lk o = lk' o := by rw [← he x (by simp)]; exact hl
  rw [he x (by simp)]
  simp only [hb1, hb2]
  cases (T t).kind <;> cases hq : ev' x <;> (try rfl)
  case slc.ro =>
   cases mx with
   | none => rfl
   | some y => simp only [hmx' y rfl]
  case slc.c v =>
   cases v <;> try rfl
   rename_i a n k
   cases a <;> try rfl
   cases n <;> try rfl
   cases k <;> rfl
  case slc.sl o ep off n =>
   have h1 := hxx o (by rw [hq]; simp [hid])
   simp only [h1]
 case fieldAddr t x f => rw [he x (by simp)]
 case field t x f => rw [he x (by simp)]
 case indexAddr t x ix =>
  have hx : ∀ o ∈ hid (ev' x), lk o = lk' o := by rw [← he x (by simp)]; exact hl
  rw [he x (by simp), he ix (by simp)]; simp only [idx_congr hx]
 case index t x ix => rw [he x (by simp), he ix (by simp)]
 case lookup t x y ok =>
  have hxx : ∀ o ∈ hid (ev' x), lk o = lk' o := by rw [← he x (by simp)]; exact hl
  rw [he x (by simp), he y (by simp)]
  cases hq : ev' x <;> simp only
  rw [hxx _ (by rw [hq]; simp [hid])]
 case mapUpdate t x y v =>
  have hxx : ∀ o ∈ hid (ev' x), lk o = lk' o := by rw [← he x (by simp)]; exact hl
  rw [he x (by simp), he y (by simp), he v (by simp)]
  cases hq : ev' x <;> simp only
  rw [hxx _ (by rw [hq]; simp [hid])]
 case insert t x y v =>
  have hxx : ∀ o ∈ hid (ev' x), lk o = lk' o := by rw [← he x (by simp)]; exact hl
  rw [he x (by simp), he y (by simp), he v (by simp)]
  cases hq : ev' x <;> simp only
  rw [hxx _ (by rw [hq]; simp [hid])]
 case extract x j => rw [he x (by simp)]
 case call c =>
  cases hc : c.callee with
  | builtin b =>
   simp only
   have h1 : c.args.toList.map ev = c.args.toList.map ev' := List.map_congr_left fun x hx => he x (by simp [Call.operands, hc]; simpa using hx)
   rw [h1]
   exact builtin_congr fun x hx' o ho => by
    obtain ⟨y, hy, rfl⟩ := List.mem_map.1 hx'
    have hy2 := he y (by simp [Call.operands, hc]; simpa using hy)
    rw [← hy2] at ho
    exact hl o (List.mem_flatMap.2 ⟨y, by simpa using hy, ho⟩)
  | _ => rfl

theorem step_nx {op : Op} {ev : Operand → V} {nx nx' : Nat} {v : V} {upd : List (Nat × Ob)} (h : step T op ev lk nx = some (v, upd)) (hn : nx ∉ upd.map (·.1)) : step T op ev lk nx' = some (v, upd) := by
 cases op <;> simp only [step] at h ⊢ <;> try exact h
 case alloc t => split at h <;> cases h; simp at hn
 case makeFunc f first cap => cases f <;> exact h
 case box t x => split at h <;> try cases h
                 split at h <;> cases h
                 simp at hn
 case buildSlice t n ps => split at h <;> try cases h
                           split at h <;> try cases h
                           split at h <;> cases h
                           simp at hn
 case makeMap t r =>
  cases r <;> simp only at h ⊢
  ·split at h <;> try cases h
   split at h <;> cases h
   simp at hn
  ·cases h
 case makeSlice t l c => split at h <;> try cases h
                         split at h <;> cases h
                         simp at hn
 case call c =>
  split at h <;> try cases h
  unfold builtinV at h ⊢
  split at h <;> try exact h
  have hap : ∀ e ti s x, appendV e ti lk nx s x = some (v, upd) → appendV e ti lk nx' s x = some (v, upd) := by
   intro e ti s x ha
   unfold appendV at ha ⊢
   split at ha
   ·cases ha
   ·split at ha
    ·split at ha <;> cases ha
     simp at hn
    ·split at ha <;> cases ha
     simp at hn
    ·exact ha
    ·cases ha
  split at h <;> try cases h
  ·split at h
   ·rename_i h0; rw [if_pos h0]; exact hap _ _ _ _ h
   ·cases h
  ·split at h
   ·rename_i h0; rw [if_pos h0]; exact hap _ _ _ _ h
   ·cases h

end

end Go.AM
end
section
namespace Go.AM
open Go

def Pu : V → Prop
 | .i _ _ | .b _ | .s _ | .c _ | .ro _ _ | .rp _ | .z => True
 | _ => False

theorem VRel.toP {D : Dir} {ok : Nat → Prop} {w : World} {x : V} {u : Value} (h : VRel D ok w x u) (hp : Pu x) : PRel ok w x u := by
 cases h with
 | pure h => exact h
 | _ => exact hp.elim

inductive View (lk : Nat → Ob) (vs : List Nat) : V → V → Prop
 | pu {x : V} (h : Pu x) : View lk vs x x
 | nil (sz : Nat) : View lk vs (.c (.slice none 0 0)) (.ro sz [])
 | z (sz : Nat) : View lk vs .z (.ro sz [])
 | sl {o ep off n sz : Nat} {es es' : List (List V)} (xs : Nat → Nat → V) (ho : o ∈ vs) (hl : lk o = .arr ep sz es) (hle : off + n ≤ es.length) (hn : es'.length = n) (hsz : ∀ x ∈ es', x.length = sz)
   (hx : ∀ (i j : Nat) (y : V), (es'[i]?).bind (fun l => l[j]?) = some y → (es[off + i]?).bind (fun l => l[j]?) = some (xs i j))
   (hr : ∀ (i j : Nat) (y : V), (es'[i]?).bind (fun l => l[j]?) = some y → View lk vs (xs i j) y) : View lk vs (.sl o ep off n) (.ro sz es')

def ArgR (lk : Nat → Ob) (ρ vs : List Nat) (x x' : V) : Prop :=
 x' = ren (toIdx ρ) x ∨ View lk vs x x' ∨
  ∃ cs cs', x = .agg cs ∧ x' = .agg cs' ∧ cs'.length = cs.length ∧ ∀ (j : Nat) (y y' : V), cs[j]? = some y → cs'[j]? = some y' → y' = ren (toIdx ρ) y ∨ View lk vs y y'

structure CallR (P : Program) (lk : Nat → Ob) (nx : Nat) (f : FuncId) (args : List V) (ρ vs : List Nat) (args' : List V) (r : V) (objs' : List Ob) : Prop where
 nodup : ρ.Nodup
 disj : ∀ o ∈ vs, o ∉ ρ
 len : args'.length = args.length
 args : ∀ (j : Nat) (x x' : V), args[j]? = some x → args'[j]? = some x' → ArgR lk ρ vs x x'
 qc : QC P f args' (ρ.map fun o => (lk o).ren (toIdx ρ)) r objs'
 view : vs = [] ∨ (nr r ∧ ∀ ob ∈ objs', ob.nr)
 more : ρ.length ≤ objs'.length
 low : ∀ o ∈ ρ, o < nx
 fresh : ∀ j, j < objs'.length - ρ.length → lk (nx + j) = .unborn

def keys (ρ : List Nat) (nx n : Nat) : List Nat := ρ ++ (List.range (n - ρ.length)).map (nx + ·)

inductive OpR (P : Program) (T : Tab) (op : Op) (ev : Operand → V) (lk : Nat → Ob) (nx : Nat) : V → List (Nat × Ob) → List Nat → Prop
 | step {v : V} {upd : List (Nat × Ob)} (hn : nx ∈ upd.map (·.1) → lk nx = .unborn) (h : step T op ev lk nx = some (v, upd)) : OpR P T op ev lk nx v upd (touchOf op ev)
 | call {c : Call} {fo : Operand} {f : FuncId} {cap : List V} {ρ vs : List Nat} {args' : List V} {r : V} {objs' : List Ob} {L : List V} (hop : op = .call c) (hc : c.callee = .value fo) (hf : (ev fo = .fn f cap ∧ L = c.args.toList.map ev ++ cap) ∨ (ev fo = .bm f cap ∧ L = cap ++ c.args.toList.map ev))
   (H : CallR P lk nx f L ρ vs args' r objs') :
   OpR P T op ev lk nx (ren (fun i => (keys ρ nx objs'.length)[i]?) r) (callUpd (keys ρ nx objs'.length) objs') (ρ ++ vs)

section
variable {P : Program} {T : Tab} {E : Env} {m : Locs} {h : List Ob} {w : World}

theorem view_sound (R : HRel E m h w) {vs : List Nat} {x x' : V} {u : Value} (hv : View (fun o => h.getD o .unborn) vs x x') (hx : VRel (dirOf m h) (okc E m h) w x u) : PRel (okV E m h vs) w x' u := by
 have hokc : ∀ x u, PRel (okc E m h) w x u → PRel (okV E m h vs) w x u := fun x u hp => hp.mono (Nat.le_refl _) fun b _ hb => ⟨.inl hb, rfl⟩
 revert u
 induction hv with
 | pu hp => exact fun hx => hokc _ _ (hx.toP hp)
 | nil sz => intro u hx; rw [hx.c_inv]; exact .ro0 sz _ _
 | z sz =>
  intro u hx
  cases hx with
  | pure hp => cases hp; exact .ro0 sz _ _
 | @sl o ep off n sz es es' xs ho hl hle hn' hsz hx hr ih =>
  intro u hv
  cases hv with
  | pure hp => cases hp
  | sl _ _ _ _ sz2 blk o0 cap cl e fr hD hnc hb hf =>
   rw [dir_arr hl] at hD
   simp only [Option.some.injEq, DE.arr.injEq, true_and] at hD
   obtain ⟨rfl, hm⟩ := hD
   obtain ⟨hel, hsz0, hmost⟩ := arr_sz R hl
   have hlv : live (h.getD o .unborn) := by rw [hl]; trivial
   have hob := R.obs o
   rw [hl, hm] at hob
   obtain ⟨_, _, _, c2, e2, hc2, hcz2, hcs2⟩ := hob
   have key : ∀ (i j : Nat) (y : V), (es'[i]?).bind (fun l => l[j]?) = some y → ∃ u, w.cell? ⟨blk, o0 + off * sz + i * sz + j, none⟩ = some u ∧ VRel (dirOf m h) (okc E m h) w (xs i j) u := by
    intro i j y hy
    obtain ⟨u, h1, _, h3⟩ := hcs2 (off + i) j (xs i j) (hx i j y hy)
    exact ⟨u, by rw [show o0 + off * sz + i * sz + j = o0 + (off + i) * sz + j by rw [Nat.add_mul]; omega]; simp [World.cell?, hc2, h1], h3⟩
   have := PRel.ro (ok := okV E m h vs) (w := w) sz es' blk (o0 + off * sz) cap (fun i j => (w.cell? ⟨blk, o0 + off * sz + i * sz + j, none⟩).getD undef)
    (.inr ⟨o, ho, o0, hlv, hm⟩) (R.blk o blk o0 hlv hm).2 hsz (by omega) (by omega)
    (fun i j hi hj => by
     have hil : (es'[i]'hi).length = sz := hsz _ (List.getElem_mem _)
     obtain ⟨u, h1, _⟩ := key i j ((es'[i]'hi)[j]'(by omega)) (by simp [hi])
     rw [h1]; rfl)
    (fun i j y hy => by
     obtain ⟨u, h1, h2⟩ := key i j y hy
     rw [h1]
     exact ih i j y hy h2)
   rw [hn'] at this
   exact this
  | sl0 _ _ _ sz2 l a hD =>
   have : es' = [] := List.eq_nil_of_length_eq_zero hn'
   subst this
   exact .ro0 sz a 0
  | slS _ _ _ _ _ d _ hD hst _ =>
   rw [dir_arr hl] at hD
   obtain rfl := Option.some.inj hD
   exact (stale_arr hst).elim

theorem keys_get (ρ : List Nat) (nx n i : Nat) (hle : ρ.length ≤ n) (hi : i < n) : (keys ρ nx n)[i]? = if i < ρ.length then ρ[i]? else some (nx + (i - ρ.length)) := by
 unfold keys
 rw [List.getElem?_append]
 split
 ·rfl
 ·rw [List.getElem?_map, List.getElem?_range (by omega)]
  rfl

theorem keys_length (ρ : List Nat) (nx n : Nat) (hle : ρ.length ≤ n) : (keys ρ nx n).length = n := by
 simp [keys]; omega

theorem keys_nodup (ρ : List Nat) (nx n : Nat) (hn : ρ.Nodup) (hlow : ∀ o ∈ ρ, o < nx) : (keys ρ nx n).Nodup := by
 unfold keys
 rw [List.nodup_append]
 refine ⟨hn, ?_, ?_⟩
 ·rw [List.Nodup, List.pairwise_map]
  exact List.Pairwise.imp (fun h => by omega) (List.nodup_range (n := n - ρ.length))
 ·intro a ha b hb
  simp only [List.mem_map, List.mem_range] at hb
  obtain ⟨j, _, rfl⟩ := hb
  have := hlow a ha
  omega

theorem append_rel {D : Dir} {ok : Nat → Prop} {l l2 : List V} {us us2 : List Value} (hl : us.length = l.length) (h1 : ∀ (j : Nat) (x : V) (u : Value), l[j]? = some x → us[j]? = some u → VRel D ok w x u)
  (h2 : ∀ (j : Nat) (x : V) (u : Value), l2[j]? = some x → us2[j]? = some u → VRel D ok w x u) : ∀ (j : Nat) (x : V) (u : Value), (l ++ l2)[j]? = some x → (us ++ us2)[j]? = some u → VRel D ok w x u := by
 intro j x u hx hu
 rw [List.getElem?_append] at hx hu
 rw [hl] at hu
 split at hx
 ·rw [if_pos (by assumption)] at hu; exact h1 j x u hx hu
 ·rw [if_neg (by assumption)] at hu; exact h2 _ x u hx hu

theorem op_sound (hT : TOK P T) (hG : GOK P E.w0 E.own) (R : HRel E m h w) (o : Oper) {a : Act} {ev : Operand → V} (hr : ∀ x, VRel (dirOf m h) (okc E m h) w (ev x) (a.eval x)) {nx : Nat} {v : V} {upd : List (Nat × Ob)} {tc : List Nat}
  (H : OpR P T o.op ev (fun o => h.getD o .unborn) nx v upd tc) {K : Act → World → Prop} {Q : Exit → Act → World → Prop}
  (hK : ∀ u w' m', HRel E m' (updL h upd) w' → (∀ x y, VRel (dirOf m h) (okc E m h) w x y → VRel (dirOf m' (updL h upd)) (okc E m' (updL h upd)) w' x y) →
   VRel (dirOf m' (updL h upd)) (okc E m' (updL h upd)) w' v u → K (a.put o.dst u) w') : o.wp P a w K Q := by
 unfold Oper.wp
 cases H with
 | step hn hs =>
  have hex : ∃ nx', h.getD nx' .unborn = .unborn ∧ step T o.op ev (fun o => h.getD o .unborn) nx' = some (v, upd) := by
   by_cases hm : nx ∈ upd.map (·.1)
   ·exact ⟨nx, hn hm, hs⟩
   ·exact ⟨h.length, by simp [List.getD], step_nx hs hm⟩
  obtain ⟨nx', hn', hs'⟩ := hex
  obtain ⟨nxt, w', m', h1, h2, h3, h4⟩ := step_done hT R hr hn' o hs'
  rw [h1]
  rcases h4 with ⟨rfl, rfl⟩ | ⟨u, rfl, hu⟩
  ·exact hK undef w' m' h2 h3 (.junk _)
  ·exact hK u w' m' h2 h3 hu
 | @call c fo f cap ρ vs args' r objs' L hop hc hf H =>
  obtain ⟨U, hrun, hul, hargs⟩ : ∃ U : List Value, (execOp a.eval o).run P w = .ok (.enter f U.toArray) w ∧ U.length = L.length ∧
    ∀ (j : Nat) (x : V) (u : Value), L[j]? = some x → U[j]? = some u → VRel (dirOf m h) (okc E m h) w x u := by
   rcases hf with ⟨hf, rfl⟩ | ⟨hf, rfl⟩
   ·have hfo := hr fo
    rw [hf] at hfo
    obtain ⟨us, hfv, hul, hur⟩ := hfo.fn_inv
    refine ⟨c.args.toList.map a.eval ++ us, ?_, by simp [hul], append_rel (by simp) (list_rel hr c.args.toList) hur⟩
    unfold execOp
    rw [hop]
    simp only [resolve, hc, hfv, Deferred.ofValue, Sem.run_bind, Sem.run_pure, Result.andThen_ok, invoke, Array.empty_append]
    rw [show (c.args.map a.eval ++ us.toArray) = (c.args.toList.map a.eval ++ us).toArray by apply Array.ext'; simp]
    exact H.qc.1 _ w
   ·have hfo := hr fo
    rw [hf] at hfo
    obtain ⟨us, hfv, hul, hur⟩ := hfo.bm_inv
    refine ⟨us ++ c.args.toList.map a.eval, ?_, by simp [hul], append_rel hul hur (list_rel hr c.args.toList)⟩
    unfold execOp
    rw [hop]
    simp only [resolve, hc, hfv, Deferred.ofValue, Sem.run_bind, Sem.run_pure, Result.andThen_ok, invoke, Array.append_empty]
    rw [show (us.toArray ++ c.args.map a.eval) = (us ++ c.args.toList.map a.eval).toArray by apply Array.ext'; simp]
    exact H.qc.1 _ w
  rw [hrun, Oper.upon_enter]
  obtain ⟨hp1, hp2, hp3⟩ := R.pass (vs := vs) H.nodup H.disj
  have hview : ∀ x x' u, View (fun o => h.getD o .unborn) vs x x' → VRel (dirOf m h) (okc E m h) w x u →
    VRel (dirOf (fun i => (ρ[i]?).bind m) (passed h ρ)) (okc (inner E m h ρ vs w) (fun i => (ρ[i]?).bind m) (passed h ρ)) w x' u :=
   fun x x' u hv hx => .pure (hp2 _ _ (view_sound R hv hx))
  have hcall := H.qc.2 w U.toArray (fun i => (ρ[i]?).bind m) (okV E m h vs) (hG.next R fun b hb => by
   obtain ⟨i, off, hl, hm⟩ := hb
   have hl : live ((passed h ρ).getD i .unborn) := hl
   have hm : (ρ[i]?).bind m = some (b, off) := hm
   rw [passed_get] at hl
   cases hq : ρ[i]? with
   | none => rw [hq] at hl; exact hl.elim
   | some o =>
    rw [hq] at hl hm
    exact ⟨o, off, live_ren.1 hl, hm⟩) hp1 (by rw [H.len]; simp [hul])
   (fun j x' u hx' hu => by
    have hu' : U[j]? = some u := by
     rw [← Array.getElem?_toList] at hu
     simpa using hu
    have hj : j < L.length := by
     rw [← H.len]; exact (List.getElem?_eq_some_iff.1 hx').1
    have hx : L[j]? = some L[j] := List.getElem?_eq_getElem hj
    have hrel := hargs j _ u hx hu'
    rcases H.args j _ x' hx hx' with h1 | h1 | ⟨cs, cs', h1, rfl, h3, h4⟩
    ·rw [h1]; exact hp3 _ _ hrel
    ·exact hview _ _ _ h1 hrel
    ·rw [h1] at hrel
     obtain ⟨us', rfl, hl', ho', hr'⟩ := hrel.agg_inv
     refine .agg cs' us' (by rw [hl', h3]) ho' fun k y' z hy' hz => ?_
     have hk : k < cs.length := by rw [← h3]; exact (List.getElem?_eq_some_iff.1 hy').1
     have hy : cs[k]? = some cs[k] := List.getElem?_eq_getElem hk
     rcases h4 k _ y' hy hy' with h5 | h5
     ·rw [h5]; exact hp3 _ _ (hr' k _ z hy hz)
     ·exact hview _ _ _ h5 (hr' k _ z hy hz))
  refine hcall.mono fun e w' he => ?_
  obtain ⟨u, m1', rfl, hH, hres⟩ := he
  have hkl := keys_length ρ nx objs'.length H.more
  have hkn := keys_nodup ρ nx objs'.length H.nodup H.low
  obtain ⟨m'', h1, h2, h3⟩ := R.back (ks := keys ρ nx objs'.length) (vs := vs) H.disj hkn
   (fun i hi => by rw [keys_get _ _ _ _ H.more (by have := H.more; omega), if_pos hi]) (by rw [hkl]; exact H.more) hkl.symm
   (fun i o hi ho => by
    have hil : i < objs'.length := by rw [← hkl]; exact (List.getElem?_eq_some_iff.1 ho).1
    rw [keys_get _ _ _ _ H.more hil, if_neg (by omega)] at ho
    cases ho
    exact H.fresh (i - ρ.length) (by omega)) hH
   (h' := updL h (callUpd (keys ρ nx objs'.length) objs')) (fun x => by
    have := updL_get (keys ρ nx objs'.length) (objs'.map fun ob => ob.ren fun i => (keys ρ nx objs'.length)[i]?) h x hkn (by simp [hkl])
    rw [show updL h (callUpd (keys ρ nx objs'.length) objs') = updL h ((keys ρ nx objs'.length).zip (objs'.map fun ob => ob.ren fun i => (keys ρ nx objs'.length)[i]?)) from rfl, this]
    cases hq : toIdx (keys ρ nx objs'.length) x with
    | none => rfl
    | some i =>
     have hil : i < objs'.length := by rw [← hkl]; exact (List.getElem?_eq_some_iff.1 (toIdx_some hq)).1
     simp [List.getD, hil]) (H.view.imp id fun h => h.2)
  exact hK u w' m'' h1 h2 (h3 r u (H.view.imp id fun h => h.1) hres)

end

end Go.AM
end
