/- Contracts of ways, right, coroutine and Valid, with the plain law of ways. -/
import Derived.Test.YtaklafpfbhaoaaaDoorWalkA
import Derived.Test.YtaklafpfbhaoaaaDoorMachE
set_option linter.unusedVariables false
set_option linter.unusedSimpArgs false
set_option linter.constructorNameAsVariable false
section
namespace Go.Proofs.Tryd
open Go Go.AM

structure InsD where
  op : Int
  a : Int
  b : Int
  c : Int
  l : List Int

def insC (x : InsD) : List V := [n x.op, n x.a, n x.b, n x.c, .ro 1 (x.l.map fun z => [n z])]
def readsD (x : InsD) : List Int := rdl x.op x.a x.b x.c 3
def writesD (x : InsD) : Bool := decide ((shape x.op).1.1 = 2)
def nextD (x : InsD) (p : Int) : List Int := x.l ++ if fallsI x.op = true then [p + 1] else []

/-- A way from the beginning to p, on which the registers S are written. -/
inductive Reach (f : List InsD) (S0 : Int → Prop) : Int → (Int → Prop) → Prop
  | start : Reach f S0 0 S0
  | step {p q : Int} {S : Int → Prop} {x : InsD} (h : Reach f S0 p S) (hp : 0 ≤ p) (hx : f[p.toNat]? = some x) (hq : q ∈ nextD x p) : Reach f S0 q fun r => S r ∨ (writesD x = true ∧ r = x.a)

def WaysOK (f : List InsD) (S0 : Int → Prop) : Prop := ∀ p S, Reach f S0 p S → ∀ x, 0 ≤ p → f[p.toNat]? = some x → ∀ r ∈ readsD x, S r

noncomputable def waysB (f : List InsD) (S0 : Int → Prop) : Bool := @decide (WaysOK f S0) (Classical.propDecidable _)

/-- What is known of a function ahead of ways. -/
structure FunOK (f : List InsD) : Prop where
  pos : f ≠ []
  size : f.length ≤ 65536
  rd : ∀ x ∈ f, ∀ r ∈ readsD x, 0 ≤ r ∧ r < 16
  wr : ∀ x ∈ f, writesD x = true → 0 ≤ x.a ∧ x.a < 16
  nx : ∀ (p : Int) (x : InsD), 0 ≤ p → f[p.toNat]? = some x → ∀ q ∈ nextD x p, 0 ≤ q ∧ q < f.length
  ll : ∀ x ∈ f, x.l.length ≤ 1000000

abbrev WM := Int → Option Nat
def setW (w : WM) (p : Int) (v : Nat) : WM := fun m => if m = p then some v else w m
def startS (k0 : Nat) : Int → Prop := fun r => 0 ≤ r ∧ k0.testBit r.toNat = true

def cnt (v : Nat) : Nat := (List.range 32).countP fun r => v.testBit r
def wt (w : WM) (p : Nat) : Nat := match w p with
  | none => 33
  | some v => cnt v
def phi (m : Nat) (w : WM) : Nat := ((List.range m).map (wt w)).sum

theorem cnt_le (v : Nat) : cnt v ≤ 32 := by
  unfold cnt; have := List.countP_le_length (p := fun r => v.testBit r) (l := List.range 32); simpa using this

theorem countP_lt {α : Type} {p q : α → Bool} {l : List α} (h : ∀ x ∈ l, p x = true → q x = true) {y : α} (hy : y ∈ l) (h1 : q y = true) (h2 : p y = false) : l.countP p < l.countP q := by
  induction l with
  | nil => cases hy
  | cons a l ih =>
    have hle : l.countP p ≤ l.countP q := List.countP_mono_left fun x hx => h x (List.mem_cons_of_mem _ hx)
    rcases List.mem_cons.1 hy with rfl | hy
    · rw [List.countP_cons_of_neg (by simp [h2]), List.countP_cons_of_pos h1]; omega
    · have := ih (fun x hx => h x (List.mem_cons_of_mem _ hx)) hy
      rw [List.countP_cons, List.countP_cons]
      have h3 := h a List.mem_cons_self
      by_cases hp : p a = true
      · simp [hp, h3 hp]; omega
      · simp [hp]; split <;> omega

theorem cnt_and {u v : Nat} (hu : u < 2 ^ 32) (h : u &&& v ≠ u) : cnt (u &&& v) < cnt u := by
  have : ∃ r, (u &&& v).testBit r ≠ u.testBit r := Classical.byContradiction fun hn => h (Nat.eq_of_testBit_eq fun r => Classical.byContradiction fun hr => hn ⟨r, hr⟩)
  obtain ⟨r, hr⟩ := this
  rw [Nat.testBit_and] at hr
  have h1 : u.testBit r = true := by cases hb : u.testBit r <;> simp [hb] at hr ⊢
  have h2 : v.testBit r = false := by cases hb : v.testBit r <;> simp [hb, h1] at hr ⊢
  have hr32 : r < 32 := Classical.byContradiction fun hge => by
    have h3 : u < 2 ^ r := Nat.lt_of_lt_of_le hu (Nat.pow_le_pow_right (by decide) (by omega))
    rw [Nat.testBit_lt_two_pow h3] at h1; cases h1
  exact countP_lt (fun x _ hx => by rw [Nat.testBit_and] at hx; simp only [Bool.and_eq_true] at hx; exact hx.1) (List.mem_range.2 hr32) h1 (by rw [Nat.testBit_and, h2, Bool.and_false])

theorem sum_lt {l : List Nat} {g h : Nat → Nat} {p : Nat} (hp : p ∈ l) (hn : l.Nodup) (h1 : h p < g p) (h2 : ∀ x, x ≠ p → h x = g x) : (l.map h).sum < (l.map g).sum := by
  induction l with
  | nil => cases hp
  | cons a l ih =>
    obtain ⟨ha, hl⟩ := List.nodup_cons.1 hn
    simp only [List.map_cons, List.sum_cons]
    rcases List.mem_cons.1 hp with rfl | hp
    · have : l.map h = l.map g := List.map_congr_left fun x hx => h2 x (by rintro rfl; exact ha hx)
      rw [this]; omega
    · have := ih hp hl
      rw [h2 a (by rintro rfl; exact ha hp)]; omega

theorem phi_set {m : Nat} {w : WM} {p : Int} {v : Nat} (h0 : 0 ≤ p) (hm : p < m) (h : cnt v < wt w p.toNat) : phi m (setW w p v) < phi m w := by
  refine sum_lt (p := p.toNat) (List.mem_range.2 (by omega)) List.nodup_range ?_ fun x hx => ?_
  · have : wt (setW w p v) p.toNat = cnt v := by unfold wt setW; simp [Int.toNat_of_nonneg h0]
    rw [this]; exact h
  · unfold wt setW
    rw [if_neg (by omega)]

theorem phi_le {m : Nat} {w : WM} : phi m w ≤ 33 * m := by
  unfold phi
  have h : ∀ l : List Nat, (l.map (wt w)).sum ≤ 33 * l.length := by
    intro l
    induction l with
    | nil => simp
    | cons a l ih =>
      have : wt w a ≤ 33 := by unfold wt; split; omega; rename_i v _; have := cnt_le v; omega
      simp only [List.map_cons, List.sum_cons, List.length_cons]; omega
  have := h (List.range m)
  simpa using this

/-- The state between two rounds; 'at' is looked at, of its next ones the first 'i' are done. -/
structure WInv (f : List InsD) (k0 : Nat) (p0 : Int) (now i : Nat) (s : List Int) (w : WM) : Prop where
  key : ∀ p v, w p = some v → 0 ≤ p ∧ p < f.length ∧ v < 2 ^ 32
  stk : ∀ p ∈ s, ∃ v, w p = some v
  low : ∀ p v, w p = some v → ∀ r : Nat, v.testBit r = false → ∃ S, Reach f (startS k0) p S ∧ ¬ S r
  zero : ∃ v, w 0 = some v ∧ ∀ r : Nat, v.testBit r = true → k0.testBit r = true
  cur : p0 ∈ s ∨ w p0 = some now
  done : ∀ p v, w p = some v → p ∈ s ∨ ∀ x, f[p.toNat]? = some x → (∀ r ∈ readsD x, v.testBit r.toNat = true) ∧
    ∀ q ∈ (if p = p0 then (nextD x p).take i else nextD x p), ∃ u, w q = some u ∧ ∀ r : Nat, u.testBit r = true → v.testBit r = true ∨ (writesD x = true ∧ (r : Int) = x.a)

/-- Between two rounds. -/
structure OInv (f : List InsD) (k0 : Nat) (s : List Int) (w : WM) : Prop where
  key : ∀ p v, w p = some v → 0 ≤ p ∧ p < f.length ∧ v < 2 ^ 32
  stk : ∀ p ∈ s, ∃ v, w p = some v
  low : ∀ p v, w p = some v → ∀ r : Nat, v.testBit r = false → ∃ S, Reach f (startS k0) p S ∧ ¬ S r
  zero : ∃ v, w 0 = some v ∧ ∀ r : Nat, v.testBit r = true → k0.testBit r = true
  done : ∀ p v, w p = some v → p ∈ s ∨ ∀ x, f[p.toNat]? = some x → (∀ r ∈ readsD x, v.testBit r.toNat = true) ∧
    ∀ q ∈ nextD x p, ∃ u, w q = some u ∧ ∀ r : Nat, u.testBit r = true → v.testBit r = true ∨ (writesD x = true ∧ (r : Int) = x.a)

theorem OInv.first {f : List InsD} (H : FunOK f) {k0 : Nat} (hk : k0 < 2 ^ 32) : OInv f k0 [0] (setW (fun _ => none) 0 k0) := by
  have hpos : 0 < f.length := List.length_pos_iff.2 H.pos
  have hv : ∀ {p : Int} {v : Nat}, setW (fun _ => none) 0 k0 p = some v → p = 0 ∧ v = k0 := by
    intro p v h
    unfold setW at h
    split at h
    · cases h; exact ⟨by assumption, rfl⟩
    · cases h
  refine ⟨fun p v h => ?_, fun p h => ?_, fun p v h r hr => ?_, ⟨k0, by simp [setW], fun r h => h⟩, fun p v h => ?_⟩
  · obtain ⟨rfl, rfl⟩ := hv h; exact ⟨by omega, by omega, hk⟩
  · rw [List.mem_singleton.1 h]; exact ⟨k0, by simp [setW]⟩
  · obtain ⟨rfl, rfl⟩ := hv h
    exact ⟨_, .start, fun hS => by have := hS.2; simp [hr] at this⟩
  · obtain ⟨rfl, rfl⟩ := hv h
    exact .inl (List.mem_singleton.2 rfl)

theorem OInv.last {f : List InsD} {k0 : Nat} {w : WM} (H : FunOK f) (I : OInv f k0 [] w) : waysB f (startS k0) = true := by
  have key : ∀ p S, Reach f (startS k0) p S → ∃ v, w p = some v ∧ ∀ r : Nat, v.testBit r = true → S r := by
    intro p S h
    induction h with
    | start =>
      obtain ⟨v, h1, h2⟩ := I.zero
      exact ⟨v, h1, fun r hr => ⟨by omega, by simpa using h2 r hr⟩⟩
    | @step p q S x h hp hx hq ih =>
      obtain ⟨v, h1, h2⟩ := ih
      rcases I.done p v h1 with h3 | h3
      · cases h3
      · obtain ⟨u, h4, h5⟩ := (h3 x hx).2 q hq
        refine ⟨u, h4, fun r hr => ?_⟩
        rcases h5 r hr with h6 | h6
        · exact .inl (h2 r h6)
        · exact .inr h6
  unfold waysB
  refine @decide_eq_true _ (Classical.propDecidable _) fun p S h x hp hx r hr => ?_
  obtain ⟨v, h1, h2⟩ := key p S h
  rcases I.done p v h1 with h3 | h3
  · cases h3
  · have h4 := (h3 x hx).1 r hr
    have h5 := (H.rd x (List.mem_of_getElem? hx) r hr).1
    have := h2 _ h4
    rwa [Int.toNat_of_nonneg h5] at this

theorem OInv.bad {f : List InsD} {k0 : Nat} {s : List Int} {w : WM} (H : FunOK f) (I : OInv f k0 s w) {p : Int} {v : Nat} {x : InsD} (h : w p = some v) (hx : f[p.toNat]? = some x) {r : Int} (hr : r ∈ readsD x) (hb : v.testBit r.toNat = false) : waysB f (startS k0) = false := by
  obtain ⟨S, h1, h2⟩ := I.low p v h _ hb
  have h5 := (H.rd x (List.mem_of_getElem? hx) r hr).1
  rw [Int.toNat_of_nonneg h5] at h2
  unfold waysB
  refine @decide_eq_false _ (Classical.propDecidable _) fun hw => h2 (hw p S h1 x (I.key p v h).1 hx r hr)

theorem OInv.pop {f : List InsD} {k0 : Nat} {s : List Int} {w : WM} {p : Int} (I : OInv f k0 (s ++ [p]) w) {v : Nat} (h : w p = some v) {x : InsD} (hx : f[p.toNat]? = some x) (hr : ∀ r ∈ readsD x, v.testBit r.toNat = true) : WInv f k0 p v 0 s w := by
  refine ⟨I.key, fun q hq => I.stk q (List.mem_append_left _ hq), I.low, I.zero, .inr h, fun q u hu => ?_⟩
  by_cases hqp : q = p
  · subst hqp
    rw [h] at hu; cases hu
    refine .inr fun y hy => ?_
    rw [hx] at hy; cases hy
    exact ⟨hr, by rw [if_pos rfl]; intro z hz; simp at hz⟩
  · rcases I.done q u hu with h1 | h1
    · rcases List.mem_append.1 h1 with h2 | h2
      · exact .inl h2
      · exact absurd (List.mem_singleton.1 h2) hqp
    · exact .inr fun y hy => by rw [if_neg hqp]; exact h1 y hy

theorem WInv.close {f : List InsD} {k0 : Nat} {s : List Int} {w : WM} {p : Int} {now i : Nat} {x : InsD} (I : WInv f k0 p now i s w) (hx : f[p.toNat]? = some x) (hi : (nextD x p).length ≤ i) : OInv f k0 s w := by
  refine ⟨I.key, I.stk, I.low, I.zero, fun q u hu => ?_⟩
  rcases I.done q u hu with h1 | h1
  · exact .inl h1
  · refine .inr fun y hy => ?_
    obtain ⟨h2, h3⟩ := h1 y hy
    refine ⟨h2, fun z hz => h3 z ?_⟩
    split
    · rename_i hqp; subst hqp
      rw [hx] at hy; cases hy
      rw [List.take_of_length_le hi]; exact hz
    · exact hz

def nowD (x : InsD) (now : Nat) : Nat := if writesD x = true then now ||| 2 ^ x.a.toNat else now

theorem nowD_bit {x : InsD} {now : Nat} (ha : writesD x = true → 0 ≤ x.a) (r : Nat) : (nowD x now).testBit r = true ↔ now.testBit r = true ∨ (writesD x = true ∧ (r : Int) = x.a) := by
  unfold nowD
  split
  · rename_i hw
    have := ha hw
    rw [Nat.testBit_or, Nat.testBit_two_pow, Bool.or_eq_true, decide_eq_true_eq]
    constructor
    · rintro (h | h)
      · exact .inl h
      · exact .inr ⟨hw, by omega⟩
    · rintro (h | ⟨_, h⟩)
      · exact .inl h
      · exact .inr (by omega)
  · rename_i hw
    simp [hw]

theorem nowD_lt {x : InsD} {now : Nat} (hn : now < 2 ^ 32) (ha : writesD x = true → 0 ≤ x.a ∧ x.a < 16) : nowD x now < 2 ^ 32 := by
  unfold nowD
  split
  · rename_i hw
    exact Nat.or_lt_two_pow hn (Nat.pow_lt_pow_right (by decide) (by have := ha hw; omega))
  · exact hn

section
variable {f : List InsD} {k0 : Nat} {s : List Int} {w : WM} {p q : Int} {now i : Nat} {x : InsD}

theorem WInv.takeS (hi : i < (nextD x p).length) (hq : (nextD x p)[i] = q) {z : Int} (hz : z ∈ (nextD x p).take (i + 1)) : z ∈ (nextD x p).take i ∨ z = q := by
  rw [← List.take_append_getElem hi, hq] at hz
  rcases List.mem_append.1 hz with h | h
  · exact .inl h
  · exact .inr (List.mem_singleton.1 h)

/-- The next one's registers are below: nothing turns. -/
theorem WInv.keep (I : WInv f k0 p now i s w) (H : FunOK f) (hp : 0 ≤ p) (hx : f[p.toNat]? = some x) (hi : i < (nextD x p).length) (hq : (nextD x p)[i] = q) {was : Nat} (hw : w q = some was) (h : was &&& nowD x now = was) : WInv f k0 p now (i + 1) s w := by
  have ha : writesD x = true → 0 ≤ x.a := fun h => (H.wr x (List.mem_of_getElem? hx) h).1
  refine ⟨I.key, I.stk, I.low, I.zero, I.cur, fun z u hu => ?_⟩
  rcases I.done z u hu with h1 | h1
  · exact .inl h1
  · by_cases hz : z = p
    · subst hz
      rcases I.cur with h2 | h2
      · exact .inl h2
      · rw [h2] at hu; cases hu
        refine .inr fun y hy => ?_
        rw [hx] at hy; cases hy
        obtain ⟨h3, h4⟩ := h1 x hx
        rw [if_pos rfl] at h4 ⊢
        refine ⟨h3, fun t ht => ?_⟩
        rcases WInv.takeS hi hq ht with h5 | rfl
        · exact h4 t h5
        · refine ⟨was, hw, fun r hr => (nowD_bit ha r).1 ?_⟩
          rw [← h, Nat.testBit_and, Bool.and_eq_true] at hr
          exact hr.2
    · refine .inr fun y hy => ?_
      have := h1 y hy
      rw [if_neg hz] at this ⊢
      exact this

/-- The next one's registers become fewer (or are met for the first time), and it goes onto the stack. -/
theorem WInv.push (I : WInv f k0 p now i s w) (H : FunOK f) (hp : 0 ≤ p) (hx : f[p.toNat]? = some x) (hi : i < (nextD x p).length) (hq : (nextD x p)[i] = q) {v : Nat}
    (hlow : ∀ r : Nat, now.testBit r = false → ∃ S, Reach f (startS k0) p S ∧ ¬ S r) (hnow : now < 2 ^ 32)
    (hv : (w q = none ∧ v = nowD x now) ∨ ∃ was, w q = some was ∧ v = was &&& nowD x now) : WInv f k0 p now (i + 1) (s ++ [q]) (setW w q v) := by
  have ha : writesD x = true → 0 ≤ x.a := fun h => (H.wr x (List.mem_of_getElem? hx) h).1
  have hqn : q ∈ nextD x p := by rw [← hq]; exact List.getElem_mem hi
  have hset : ∀ {z : Int} {u : Nat}, setW w q v z = some u → (z = q ∧ u = v) ∨ (z ≠ q ∧ w z = some u) := by
    intro z u hu
    unfold setW at hu
    split at hu
    · cases hu; exact .inl ⟨by assumption, rfl⟩
    · exact .inr ⟨by assumption, hu⟩
  have hvn : ∀ r : Nat, v.testBit r = true → now.testBit r = true ∨ (writesD x = true ∧ (r : Int) = x.a) := by
    intro r hr
    rcases hv with ⟨_, rfl⟩ | ⟨was, _, rfl⟩
    · exact (nowD_bit ha r).1 hr
    · rw [Nat.testBit_and, Bool.and_eq_true] at hr
      exact (nowD_bit ha r).1 hr.2
  have hmem : ∀ z ∈ s, z ∈ s ++ [q] := fun z hz => List.mem_append_left _ hz
  refine ⟨fun z u hu => ?_, fun z hz => ?_, fun z u hu r hr => ?_, ?_, ?_, fun z u hu => ?_⟩
  · rcases hset hu with ⟨rfl, rfl⟩ | ⟨_, h⟩
    · have h1 := H.nx p x hp hx _ hqn
      refine ⟨h1.1, h1.2, ?_⟩
      have h2 := nowD_lt hnow (H.wr x (List.mem_of_getElem? hx))
      rcases hv with ⟨_, rfl⟩ | ⟨was, hw, rfl⟩
      · exact h2
      · exact Nat.and_lt_two_pow _ h2
    · exact I.key z u h
  · rcases List.mem_append.1 hz with h | h
    · obtain ⟨u, hu⟩ := I.stk z h
      by_cases hzq : z = q
      · exact ⟨v, by simp [setW, hzq]⟩
      · exact ⟨u, by simp [setW, hzq, hu]⟩
    · exact ⟨v, by simp [setW, List.mem_singleton.1 h]⟩
  · rcases hset hu with ⟨rfl, rfl⟩ | ⟨_, h⟩
    · have hnew : (nowD x now).testBit r = false → ∃ S, Reach f (startS k0) z S ∧ ¬ S r := by
        intro hr
        have h3 : ¬ (now.testBit r = true ∨ (writesD x = true ∧ (r : Int) = x.a)) := fun h => by rw [(nowD_bit ha r).2 h] at hr; cases hr
        obtain ⟨S, h1, h2⟩ := hlow r (by cases hb : now.testBit r <;> simp [hb] at h3 ⊢)
        refine ⟨_, .step h1 hp hx hqn, ?_⟩
        rintro (h4 | h4)
        · exact h2 h4
        · exact h3 (.inr h4)
      rcases hv with ⟨_, rfl⟩ | ⟨was, hw, rfl⟩
      · exact hnew hr
      · rw [Nat.testBit_and, Bool.and_eq_false_iff] at hr
        rcases hr with hr | hr
        · exact I.low z was hw r hr
        · exact hnew hr
    · exact I.low z u h r hr
  · obtain ⟨u, h1, h2⟩ := I.zero
    by_cases hq0 : (0 : Int) = q
    · refine ⟨v, by simp [setW, ← hq0], fun r hr => ?_⟩
      rcases hv with ⟨h, _⟩ | ⟨was, hw, rfl⟩
      · rw [← hq0, h1] at h; cases h
      · rw [← hq0, h1] at hw; cases hw
        rw [Nat.testBit_and, Bool.and_eq_true] at hr
        exact h2 r hr.1
    · exact ⟨u, by simp [setW, hq0, h1], h2⟩
  · by_cases hpq : p = q
    · exact .inl (by rw [hpq]; exact List.mem_append_right _ (List.mem_singleton.2 rfl))
    · rcases I.cur with h | h
      · exact .inl (hmem p h)
      · exact .inr (by simp [setW, hpq, h])
  · rcases hset hu with ⟨rfl, rfl⟩ | ⟨hzq, h⟩
    · exact .inl (List.mem_append_right _ (List.mem_singleton.2 rfl))
    · have up : ∀ {t : Int} {u' : Nat} {y : InsD}, (∃ u'', w t = some u'' ∧ ∀ r : Nat, u''.testBit r = true → u'.testBit r = true ∨ (writesD y = true ∧ (r : Int) = y.a)) →
          ∃ u'', setW w q v t = some u'' ∧ ∀ r : Nat, u''.testBit r = true → u'.testBit r = true ∨ (writesD y = true ∧ (r : Int) = y.a) := by
        rintro t u' y ⟨u'', h5, h6⟩
        by_cases htq : t = q
        · subst htq
          refine ⟨v, by simp [setW], fun r hr => h6 r ?_⟩
          rcases hv with ⟨h7, _⟩ | ⟨was, hw, rfl⟩
          · rw [h5] at h7; cases h7
          · rw [h5] at hw; cases hw
            rw [Nat.testBit_and, Bool.and_eq_true] at hr
            exact hr.1
        · exact ⟨u'', by simp [setW, htq, h5], h6⟩
      rcases I.done z u h with h1 | h1
      · exact .inl (hmem z h1)
      · by_cases hz : z = p
        · subst hz
          rcases I.cur with h2 | h2
          · exact .inl (hmem _ h2)
          · rw [h2] at h; cases h
            refine .inr fun y hy => ?_
            rw [hx] at hy; cases hy
            obtain ⟨h3, h4⟩ := h1 x hx
            rw [if_pos rfl] at h4 ⊢
            refine ⟨h3, fun t ht => ?_⟩
            rcases WInv.takeS hi hq ht with h5 | rfl
            · exact up (h4 t h5)
            · exact ⟨v, by simp [setW], hvn⟩
        · refine .inr fun y hy => ?_
          obtain ⟨h3, h4⟩ := h1 y hy
          rw [if_neg hz] at h4 ⊢
          exact ⟨h3, fun t ht => up (h4 t ht)⟩

theorem phi_push (I : WInv f k0 p now i s w) (H : FunOK f) (hp : 0 ≤ p) (hx : f[p.toNat]? = some x) (hqn : q ∈ nextD x p) {v : Nat}
    (hv : (w q = none ∧ v = nowD x now) ∨ ∃ was, w q = some was ∧ v = was &&& nowD x now ∧ v ≠ was) : phi f.length (setW w q v) < phi f.length w := by
  have h1 := H.nx p x hp hx _ hqn
  refine phi_set h1.1 h1.2 ?_
  unfold wt
  rw [Int.toNat_of_nonneg h1.1]
  rcases hv with ⟨h, rfl⟩ | ⟨was, hw, rfl, hne⟩
  · rw [h]; have := cnt_le (nowD x now); show cnt _ < 33; omega
  · rw [hw]; exact cnt_and (I.key q was hw).2.2 hne
end

end Go.Proofs.Tryd
end
section
namespace Go.Proofs.Tryd
open Go Go.AM
attribute [local simp] wpG_op wpG_nil contG_some wpG_guard guardG_v guardG_o guardG_tup gval pureOp stepG_if isPick pickG_pick pickB_b pickOK isCall step_move step_assign step_alloc step_box boxV_some step_load step_store step_binOp step_unOp step_fieldAddr faV step_indexAddr ixA_slc ixA_arr step_extract extV_tup step_nilCheck ncV_ptr ncV_rp ncV_fn ncV_mp step_build buildV step_buildSlice bsV step_index ixV_arr ixV_str step_append apB step_makeSlice msV_i step_makeFunc over step_len step_makeMap mmV step_mapUpdate step_insert muA_map muB_mp step_lookup lkA_map lkB_mp step_slice slcV_s slcV_sl slcV_ro cutB_some slObV_arr bound_none bound_some bndV_i lenB_str lenB_ro lenB_sl lenB_nil lenB_z ld_ptr ld_rp offV_ptr offV_rp idxV_ro idxV_sl unV_not unV_neg binV_int binV_str binV_eqlb binV_neqb intOp strOp St.put updL setOb St.ev toV St.lk cellsOf valOf TK.agg stv fillV places TI.zero condT_true condT_false finS resL resSlot packV ren ren1 ren0 Value.cells builtinV appendV elemsOf keepT room_of wrap_in toIdx passed Function.comp_def take_len_map lenV touchOf hid tab1 tab2 tab3 tab4 tab5 tab6 tab7 tab8 tab9 tab10 tab11 tab12 tab13 tab14 tab15 tab16 tab17 tab18 tab19 tab20 tab21 tab22 tab23 tab24 tab25 tab26 tab28 tab29 tab30 tab31 tab32 tab33 tab34 tab35 tab36 tab37 tab38 tab39 tab40 tab41 tab42 tab43 tab44 tab45 tab46 tab48 tab49 tab50 tab51 tab52 tab53 tab54 tab55 tab56 tab57 tab58 tab59 tab60 tab61 tab62 tab63 tab64 tab65 tab67 tab68 tab69 tab70 tab71 tab72 tab73 tab74 tab75 tab76 tab77 tab78 tab79 tab80 tab81 tab82 tab83 tab84 tab85 tab86 tab89 tab90 tab91 tab92 tab93 tab94 tab95 tab96 tab98 tab99 tab100 tab101 tab102 tab103 tab104 tab105 tab106 tab107 tab108 tab109 tab113 tab114 tab115 tab116 tab117 tab118 tab119 tab120 ren_arr ren_gone ren_unborn
set_option linter.unusedSimpArgs false
set_option maxRecDepth 10000
set_option maxHeartbeats 4000000

def mU (w : WM) : List Int → Option V := fun k => match k with
  | [m] => (w m).map fun v => V.i .u32 (v : Nat)
  | _ => none
theorem noneM_mU : noneM = mU (fun _ => none) := by funext k; unfold noneM mU; split <;> rfl
theorem setM_mU {w : WM} {p : Int} {v : Nat} : setM (mU w) p (.i .u32 (v : Nat)) = mU (setW w p v) := by
  funext k
  unfold setM mU setW
  split
  · rename_i h; subst h; simp
  · rename_i h
    split
    · rename_i m
      rw [if_neg (fun e => h (by rw [e]))]
    · rfl
theorem setM_mU0 {w : WM} {p : Int} : setM (mU w) p (.i .u32 0) = mU (setW w p 0) := setM_mU (v := 0)
theorem setM_mU1 {w : WM} {p : Int} : setM (mU w) p (.i .u32 1) = mU (setW w p 1) := setM_mU (v := 1)
theorem mU_at {w : WM} {p : Int} : mU w [p] = (w p).map fun v => V.i .u32 (v : Nat) := rfl
theorem ren_mU {k : IntKind} {w : WM} {μ : Nat → Option Nat} : (Ob.mp k (mU w)).ren μ = .mp k (mU w) := by
  show Ob.mp k _ = _
  congr 1
  funext key
  unfold mU
  split
  · rename_i m; cases w m <;> rfl
  · rfl
theorem setW_setW {w : WM} {p : Int} {u v : Nat} : setW (setW w p u) p v = setW w p v := by
  funext m; unfold setW; split <;> simp_all
theorem snoc_of {s : List Int} (h : 0 < s.length) : ∃ s' p, s = s' ++ [p] := by
  rcases List.eq_nil_or_concat s with h1 | ⟨l, a, h1⟩
  · subst h1; simp at h
  · exact ⟨l, a, by simpa using h1⟩
theorem snoc_at {g : Int → List V} {s : List Int} {a : List V} {r : List (List V)} : (List.map g s ++ a :: r)[s.length]? = some a := by
  rw [List.getElem?_append_right (by simp)]; simp
attribute [local simp] noneM_mU setM_mU setM_mU0 setM_mU1 mU_at ren_mU setW_setW
def k0D (kind : Int) : Nat := if kind = 0 then 1 else 0
theorem k0D_pos : k0D 0 = 1 := rfl
theorem k0D_neg {k : Int} (h : ¬ k = 0) : k0D k = 0 := if_neg h
theorem k0D_lt (k : Int) : k0D k < 2 ^ 32 := by unfold k0D; split <;> decide
theorem room8 {n : Nat} (h : n ≤ 1000000000) : roomFor n 8 := ⟨by omega, by omega⟩
abbrev WSt (f : List InsD) (k0 : Nat) : Type := { y : (Nat × List Int) × List Int × WM // OInv f k0 y.1.2 y.2.2 ∧ 2 * phi f.length y.2.2 + y.1.2.length ≤ 66 * f.length + 1 }
theorem pow_lt16 {r : Int} (h0 : 0 ≤ r) (h : r < 16) : 2 ^ r.toNat < 2 ^ 32 := Nat.pow_lt_pow_right (by decide) (by omega)
theorem shl_one {r : Int} (h0 : 0 ≤ r) (h : r < 16) : IntKind.u32.wrap (2 ^ (min r.toNat IntKind.u32.bits)) = ((2 ^ r.toNat : Nat) : Int) := by
  have h1 : min r.toNat IntKind.u32.bits = r.toNat := by simp [IntKind.bits]; omega
  rw [h1]
  have h2 := pow_lt16 h0 h
  have h3 : (2 : Int) ^ r.toNat = ((2 ^ r.toNat : Nat) : Int) := by simp
  rw [h3]
  generalize 2 ^ r.toNat = m at h2 ⊢
  exact wrap_u32 (by omega) (by omega)

theorem pow_cast (k : Nat) : (2 : Int) ^ k = ((2 ^ k : Nat) : Int) := by simp
theorem row_sz (l : List Int) : ∀ e ∈ l.map (fun z => [n z]), e.length = 1 := by intro e he; obtain ⟨z, _, rfl⟩ := List.mem_map.1 he; rfl
theorem row_pu (l : List Int) : ∀ e ∈ l.map (fun z => [n z]), ∀ y ∈ e, Pu y := by
  intro e he y hy; obtain ⟨z, _, rfl⟩ := List.mem_map.1 he; rw [List.mem_singleton.1 hy]; trivial
theorem bit_iff {v k : Nat} : v &&& 2 ^ k = 0 ↔ v.testBit k = false := by
  constructor
  · intro h
    have h1 : (v &&& 2 ^ k).testBit k = false := by rw [h]; simp
    rw [Nat.testBit_and, Nat.testBit_two_pow_self, Bool.and_true] at h1
    exact h1
  · intro h
    refine Nat.eq_of_testBit_eq fun j => ?_
    rw [Nat.testBit_and, Nat.testBit_two_pow, Nat.zero_testBit]
    by_cases hj : k = j
    · subst hj; rw [h]; rfl
    · simp [hj]
theorem iand_bit {now : Nat} {r : Int} (hn : now < 2 ^ 32) (h0 : 0 ≤ r) (h : r < 16) : iand .u32 now (2 ^ r.toNat) = 0 ↔ now.testBit r.toNat = false := by
  rw [pow_cast, iand_nat hn (pow_lt16 h0 h), ← bit_iff]
  omega
theorem ior_bit {now : Nat} {x : InsD} (hn : now < 2 ^ 32) (hw : writesD x = true) (h0 : 0 ≤ x.a) (h : x.a < 16) : ior .u32 now (2 ^ x.a.toNat) = ((nowD x now : Nat) : Int) := by
  rw [pow_cast, ior_nat hn (pow_lt16 h0 h)]
  simp only [nowD, hw, if_true]
theorem takeAll {v : Nat} {l : List Int} {i : Nat} (h : i < l.length) (hp : v.testBit l[i].toNat = true) (hn : ∀ x ∈ l.take i, v.testBit x.toNat = true) : ∀ x ∈ l.take (i + 1), v.testBit x.toNat = true := by
  intro x hx
  rw [← List.take_append_getElem h] at hx
  rcases List.mem_append.1 hx with h1 | h1
  · exact hn x h1
  · rw [List.mem_singleton.1 h1]; exact hp
theorem walk39 (F C : List (List V)) (ks : List Int) (kind : Int) (f : List InsD) (H : FunOK f) : QC prog 39 [.ptr 0 0 0 0] [chkO F C ks (f.map insC) kind] (.b (waysB f (startS (k0D kind)))) [chkO F C ks (f.map insC) kind] := by
  refine QC.of_body tabOK func39 rfl (by kernel_rfl) ?_
  simp only [f39, chkO]
  refine EV.seq ?_
  refine EV.regionG tabOK ?_ -- region 0
  simp -implicitDefEqProofs
  refine EV.seq ?_
  refine EV.regionG tabOK ?_ -- region 1
  simp -implicitDefEqProofs
  refine EV.seqI ((fun _ => ⟨[.ptr 0 0 0 0, .junk, .junk, .mp 1, .junk, .junk, .junk, .junk, .junk, .junk, .junk, .junk, .junk, .junk, .junk, .junk, .junk, .junk, .junk, .junk, .junk, .junk, .junk, .junk, .junk, .junk, .junk, .junk, .junk, .junk, .junk, .junk, .junk, .junk, .junk, .junk, .junk, .junk, .junk, .junk, .junk, .junk, .junk, .junk, .junk, .junk, .junk, .junk, .junk, .junk, .junk, .junk, .junk, .junk, .junk, .junk, .junk, .junk, .junk, .junk, .junk, .junk, .junk, .junk, .junk, .junk, .junk, .junk, .junk, .junk, .junk, .junk, .junk, .junk, .junk, .junk, .junk, .junk, .junk, .junk, .junk, .junk, .junk, .junk, .junk, .junk, .junk, .junk, .junk, .junk, .junk, .junk, .junk, .junk, .junk, .junk, .junk, .junk, .junk, .junk, .junk, .junk, .junk, .junk, .junk, .junk, .junk, .junk, .junk, .junk, .junk, .junk, .junk, .junk, .junk, .junk, .junk, .junk], [.arr 0 5 [[.ro 1 F, .ro 5 C, .ro 1 (ks.map fun z => [n z]), .ro 5 (f.map insC), n kind]], .mp .i64 (mU (setW (fun _ => none) 0 (k0D kind)))]⟩ : Unit → St)) ?_ ?_
  · skip
    refine EV.seq ?_
    refine EV.regionG tabOK ?_ -- region 2
    simp -implicitDefEqProofs
    refine EV.condT ?_
    simp -implicitDefEqProofs
    refine condT_intro (fun h1 => ?_) (fun h1 => ?_)
    · try simp at h1
      refine EV.regionG tabOK ?_ -- region 3
      simp -implicitDefEqProofs
      refine ⟨(), ?_⟩
      refine Sub.cutE 2 [true, false, false, true, false, false, false, false, false, false, false, false, false, false, false, false, false, false, false, false, false, false, false, false, false, false, false, false, false, false, false, false, false, false, false, false, false, false, false, false, false, false, false, false, false, false, false, false, false, false, false, false, false, false, false, false, false, false, false, false, false, false, false, false, false, false, false, false, false, false, false, false, false, false, false, false, false, false, false, false, false, false, false, false, false, false, false, false, false, false, false, false, false, false, false, false, false, false, false, false, false, false, false, false, false, false, false, false, false, false, false, false, false, false, false, false, false, false] (by simp) ?_ ?_ <;> simp [List.range_succ, toIdx_range, passed, keepT, k0D_pos, k0D_neg, *]
    · try simp at h1
      refine EV.skip ?_
      simp only [thenK_normal, blockK_normal, scopeK_normal]
      refine ⟨(), ?_⟩
      refine Sub.cutE 2 [true, false, false, true, false, false, false, false, false, false, false, false, false, false, false, false, false, false, false, false, false, false, false, false, false, false, false, false, false, false, false, false, false, false, false, false, false, false, false, false, false, false, false, false, false, false, false, false, false, false, false, false, false, false, false, false, false, false, false, false, false, false, false, false, false, false, false, false, false, false, false, false, false, false, false, false, false, false, false, false, false, false, false, false, false, false, false, false, false, false, false, false, false, false, false, false, false, false, false, false, false, false, false, false, false, false, false, false, false, false, false, false, false, false, false, false, false, false] (by simp) ?_ ?_ <;> simp [List.range_succ, toIdx_range, passed, keepT, k0D_pos, k0D_neg, *]
  · skip
    rintro ⟨⟩
    simp only
    refine EV.seq ?_
    refine EV.regionG tabOK ?_ -- region 4
    simp -implicitDefEqProofs
    refine EV.seq ?_
    refine EV.block ?_
    refine EV.loopB ((fun y => ⟨[.ptr 0 0 0 0, .junk, .junk, .mp 1, .sl 2 y.1.1.1 0 y.1.1.2.length, .junk, .junk, .junk, .junk, .junk, .junk, .junk, .junk, .junk, .junk, .junk, .junk, .junk, .junk, .junk, .junk, .junk, .junk, .junk, .junk, .junk, .junk, .junk, .junk, .junk, .junk, .junk, .junk, .junk, .junk, .junk, .junk, .junk, .junk, .junk, .junk, .junk, .junk, .junk, .junk, .junk, .junk, .junk, .junk, .junk, .junk, .junk, .junk, .junk, .junk, .junk, .junk, .junk, .junk, .junk, .junk, .junk, .junk, .junk, .junk, .junk, .junk, .junk, .junk, .junk, .junk, .junk, .junk, .junk, .junk, .junk, .junk, .junk, .junk, .junk, .junk, .junk, .junk, .junk, .junk, .junk, .junk, .junk, .junk, .junk, .junk, .junk, .junk, .junk, .junk, .junk, .junk, .junk, .junk, .junk, .junk, .junk, .junk, .junk, .junk, .junk, .junk, .junk, .junk, .junk, .junk, .junk, .junk, .junk, .junk, .junk, .junk, .junk], [.arr 0 5 [[.ro 1 F, .ro 5 C, .ro 1 (ks.map fun z => [n z]), .ro 5 (f.map insC), n kind]], .mp .i64 (mU (y.1.2.2)), .arr (y.1.1.1) 1 ((y.1.1.2 ++ y.1.2.1).map fun z => [n z])]⟩ : WSt f (k0D kind) → St)) (fun y => 2 * phi f.length y.1.2.2 + y.1.1.2.length) (⟨((0, [0]), [], setW (fun _ => none) 0 (k0D kind)), OInv.first H (k0D_lt kind), by have := phi_le (m := f.length) (w := setW (fun _ => none) 0 (k0D kind)); simp; omega⟩) ?_ ?_
    · skip
      simp
      refine Sub.cutE 3 [true, false, false, true, true, false, false, false, false, false, false, false, false, false, false, false, false, false, false, false, false, false, false, false, false, false, false, false, false, false, false, false, false, false, false, false, false, false, false, false, false, false, false, false, false, false, false, false, false, false, false, false, false, false, false, false, false, false, false, false, false, false, false, false, false, false, false, false, false, false, false, false, false, false, false, false, false, false, false, false, false, false, false, false, false, false, false, false, false, false, false, false, false, false, false, false, false, false, false, false, false, false, false, false, false, false, false, false, false, false, false, false, false, false, false, false, false, false] (by simp) ?_ ?_ <;> simp [List.range_succ, toIdx_range, passed, keepT, *]
    · skip
      rintro ⟨⟨⟨ep, s⟩, tl, w⟩, hI, hM⟩
      simp only at hI hM ⊢
      refine EV.seq ?_
      refine EV.seq ?_
      refine EV.regionG tabOK ?_ -- region 5
      simp -implicitDefEqProofs
      refine EV.condT ?_
      simp -implicitDefEqProofs
      refine condT_intro (fun h2 => ?_) (fun h2 => ?_)
      · try simp at h2
        refine EV.skip ?_
        simp only [thenK_normal, blockK_normal, scopeK_normal]
        refine EV.block ?_
        refine EV.seq ?_
        obtain ⟨s, p, rfl⟩ := snoc_of (by first | exact h2 | exact List.length_pos_iff.2 h2)
        simp only [List.length_append, List.length_cons, List.length_nil] at hM
        have hph := phi_le (m := f.length) (w := w)
        have hsz := H.size
        have hw1 : IntKind.i64.wrap (s.length : Int) = s.length := wrap_in _ (by omega) (by omega)
        have hle1 : (s.length : Int) ≤ s.length + 1 := by omega
        obtain ⟨now, hnow⟩ := hI.stk p (by simp)
        obtain ⟨hp0, hpl, hn32⟩ := hI.key p now hnow
        have hfp : p.toNat < f.length := by omega
        obtain ⟨x, hx⟩ : ∃ x, f[p.toNat]? = some x := ⟨_, List.getElem?_eq_getElem hfp⟩
        have hxm : x ∈ f := List.mem_of_getElem? hx
        have hxe : f[p.toNat] = x := by rw [List.getElem?_eq_getElem hfp] at hx; exact Option.some.inj hx
        have hll := H.ll x hxm
        refine EV.regionG tabOK ?_ -- region 6
        simp -implicitDefEqProofs [hw1, snoc_at, Int.lt_add_one_iff]
        refine EV.seq ?_
        refine EV.regionG tabOK ?_ -- region 7
        simp -implicitDefEqProofs [hw1, hle1]
        refine EV.seq ?_
        refine EV.drawG tabOK mixedOK ?_ -- region 8
        simp -implicitDefEqProofs [hnow, hxe, hp0, hpl, hfp, insC]
        refine And.intro ?_ ?_
        · simp -implicitDefEqProofs [hnow]; decide +kernel
        simp -implicitDefEqProofs [hnow]
        refine EV.seq ?_
        refine EV.seq ?_
        refine EV.regionG tabOK ?_ -- region 9
        simp -implicitDefEqProofs [insC]
        refine callG_fun (walk14 x.op x.a x.b x.c x.l) ?_ ?_
        · simp [insV]
        simp -implicitDefEqProofs
        refine EV.block ?_
        refine EV.loopB ((fun i => ⟨[.ptr 0 0 0 0, .junk, .junk, .mp 1, .sl 2 ep 0 s.length, n p, .ptr 3 0 0 0, .i .u32 (now : Nat), .junk, .junk, .junk, .junk, .junk, .junk, .junk, .junk, .junk, .junk, .junk, .junk, .junk, .junk, .junk, .junk, .junk, .junk, .junk, .junk, .junk, .junk, .junk, .junk, .junk, .junk, .junk, .junk, .junk, .junk, .junk, .junk, .junk, .junk, .junk, .junk, .junk, .junk, .junk, .junk, .junk, .junk, .junk, .ro 1 ((readsD x).map fun z => [n z]), n (readsD x).length, n i.1, .junk, .junk, .junk, .junk, .junk, .junk, .junk, .junk, .junk, .junk, .junk, .junk, .junk, .junk, .junk, .junk, .junk, .junk, .junk, .junk, .junk, .junk, .junk, .junk, .junk, .junk, .junk, .junk, .junk, .junk, .junk, .junk, .junk, .junk, .junk, .junk, .junk, .junk, .junk, .junk, .junk, .junk, .junk, .junk, .junk, .junk, .junk, .junk, .junk, .junk, .junk, .junk, .junk, .junk, .junk, .junk, .junk, .junk, .junk, .junk, .junk, .junk, .junk, .junk], [.arr 0 5 [[.ro 1 F, .ro 5 C, .ro 1 (ks.map fun z => [n z]), .ro 5 (f.map insC), n kind]], .mp .i64 (mU w), .arr ep 1 ((s ++ p :: tl).map fun z => [n z]), .arr 0 5 [insC x]]⟩ : { i : Nat // i ≤ (readsD x).length ∧ ∀ r ∈ (readsD x).take i, now.testBit r.toNat = true } → St)) (fun i => (readsD x).length - i.1) (⟨0, by simp⟩) ?_ ?_
        · skip
          simp
          refine Sub.cutE 4 [true, false, false, true, true, true, true, true, false, false, false, false, false, false, false, false, false, false, false, false, false, false, false, false, false, false, false, false, false, false, false, false, false, false, false, false, false, false, false, false, false, false, false, false, false, false, false, false, false, false, false, true, true, true, false, false, false, false, false, false, false, false, false, false, false, false, false, false, false, false, false, false, false, false, false, false, false, false, false, false, false, false, false, false, false, false, false, false, false, false, false, false, false, false, false, false, false, false, false, false, false, false, false, false, false, false, false, false, false, false, false, false, false, false, false, false, false, false] (by simp) ?_ ?_ <;> simp [List.range_succ, toIdx_range, passed, keepT, readsD, insC, *]
        · skip
          rintro ⟨i, hi, hp⟩
          simp only
          refine EV.seq ?_
          refine EV.regionG tabOK ?_ -- region 10
          simp -implicitDefEqProofs
          refine EV.seq ?_
          refine EV.condT ?_
          simp -implicitDefEqProofs
          refine condT_intro (fun h3 => ?_) (fun h3 => ?_)
          · try simp at h3
            refine EV.skip ?_
            simp only [thenK_normal, blockK_normal, scopeK_normal]
            refine EV.seq ?_
            refine EV.block ?_
            refine EV.seq ?_
            refine EV.regionG tabOK ?_ -- region 11
            simp -implicitDefEqProofs [h3]
            refine EV.seq ?_
            have hr := H.rd x hxm _ (List.getElem_mem h3)
            have hsh := shl_one hr.1 hr.2
            have hng : ¬ (readsD x)[i] < 0 := by omega
            have hia := iand_bit hn32 hr.1 hr.2
            refine EV.regionG tabOK ?_ -- region 12
            simp -implicitDefEqProofs [hng, hsh]
            refine EV.condT ?_
            simp -implicitDefEqProofs
            refine condT_intro (fun h4 => ?_) (fun h4 => ?_)
            · try simp at h4
              refine EV.seq ?_
              have hb := hI.bad H hnow hx (List.getElem_mem h3) (hia.1 h4)
              refine EV.regionG tabOK ?_ -- region 13
              simp -implicitDefEqProofs
              refine EV.ret ?_
              simp only [thenK_ret, blockK_ret, scopeK_ret, bodyK_ret]
              refine Fin.plain ?_ ?_
              · simp [hb]
              · simp [List.range_succ]
            · try simp at h4
              refine EV.skip ?_
              simp only [thenK_normal, blockK_normal, scopeK_normal]
              refine EV.regionG tabOK ?_ -- region 14
              simp -implicitDefEqProofs
              have hw : IntKind.i64.wrap ((i : Int) + 1) = (i : Int) + 1 := wrap_in _ (by omega) (by have := rdl_len x.op x.a x.b x.c 3; simp only [readsD] at h3; omega)
              refine ⟨⟨i + 1, by omega, takeAll h3 (by rw [hia] at h4; simpa using h4) hp⟩, by simp; omega, ?_⟩
              refine Sub.cutE 4 [true, false, false, true, true, true, true, true, false, false, false, false, false, false, false, false, false, false, false, false, false, false, false, false, false, false, false, false, false, false, false, false, false, false, false, false, false, false, false, false, false, false, false, false, false, false, false, false, false, false, false, true, true, true, false, false, false, false, false, false, false, false, false, false, false, false, false, false, false, false, false, false, false, false, false, false, false, false, false, false, false, false, false, false, false, false, false, false, false, false, false, false, false, false, false, false, false, false, false, false, false, false, false, false, false, false, false, false, false, false, false, false, false, false, false, false, false, false] (by simp) ?_ ?_ <;> simp [List.range_succ, toIdx_range, passed, keepT, insC, *]
          · try simp at h3
            refine EV.exit ?_
            simp -implicitDefEqProofs
            refine EV.seqI ((fun _ => ⟨[.ptr 0 0 0 0, .junk, .junk, .mp 1, .sl 2 ep 0 s.length, n p, .ptr 3 0 0 0, .i .u32 (nowD x now : Nat), .junk, .junk, .junk, .junk, .junk, .junk, .junk, .junk, .junk, .junk, .junk, .junk, .junk, .junk, .junk, .junk, .junk, .junk, .junk, .junk, .junk, .junk, .junk, .junk, .junk, .junk, .junk, .junk, .junk, .junk, .junk, .junk, .junk, .junk, .junk, .junk, .junk, .junk, .junk, .junk, .junk, .junk, .junk, .junk, .junk, .junk, .junk, .junk, .junk, .junk, .junk, .junk, .junk, .junk, .junk, .junk, .junk, .junk, .junk, .junk, .junk, .junk, .junk, .junk, .junk, .junk, .junk, .junk, .junk, .junk, .junk, .junk, .junk, .junk, .junk, .junk, .junk, .junk, .junk, .junk, .junk, .junk, .junk, .junk, .junk, .junk, .junk, .junk, .junk, .junk, .junk, .junk, .junk, .junk, .junk, .junk, .junk, .junk, .junk, .junk, .junk, .junk, .junk, .junk, .junk, .junk, .junk, .junk, .junk, .junk], [.arr 0 5 [[.ro 1 F, .ro 5 C, .ro 1 (ks.map fun z => [n z]), .ro 5 (f.map insC), n kind]], .mp .i64 (mU w), .arr ep 1 ((s ++ p :: tl).map fun z => [n z]), .arr 0 5 [insC x]]⟩ : { _u : Unit // ∀ r ∈ readsD x, now.testBit r.toNat = true } → St)) ?_ ?_
            · skip
              refine EV.seq ?_
              have hrd : ∀ r ∈ readsD x, now.testBit r.toNat = true := by have hT : (readsD x).take i = readsD x := List.take_of_length_le (by omega); rwa [hT] at hp
              refine EV.regionG tabOK ?_ -- region 15
              simp -implicitDefEqProofs [insC]
              refine callG_fun (walk11 x.op x.a x.b x.c x.l) ?_ ?_
              · simp [insV]
              simp -implicitDefEqProofs
              refine EV.seq ?_
              refine EV.regionG tabOK ?_ -- region 16
              simp -implicitDefEqProofs
              refine EV.condT ?_
              simp -implicitDefEqProofs
              refine condT_intro (fun h5 => ?_) (fun h5 => ?_)
              · try simp at h5
                have hs2 : (shape x.op).1.1 = 2 := by assumption
                have hwr : writesD x = true := by simp [writesD, *]
                have ha := H.wr x hxm hwr
                have hsh := shl_one ha.1 ha.2
                have hng : ¬ x.a < 0 := by omega
                have hio := ior_bit hn32 hwr ha.1 ha.2
                refine EV.regionG tabOK ?_ -- region 17
                simp -implicitDefEqProofs [hs2, hng, hsh, hio]
                refine ⟨⟨(), hrd⟩, ?_⟩
                refine Sub.cutE 4 [true, false, false, true, true, true, true, true, false, false, false, false, false, false, false, false, false, false, false, false, false, false, false, false, false, false, false, false, false, false, false, false, false, false, false, false, false, false, false, false, false, false, false, false, false, false, false, false, false, false, false, false, false, false, false, false, false, false, false, false, false, false, false, false, false, false, false, false, false, false, false, false, false, false, false, false, false, false, false, false, false, false, false, false, false, false, false, false, false, false, false, false, false, false, false, false, false, false, false, false, false, false, false, false, false, false, false, false, false, false, false, false, false, false, false, false, false, false] (by simp) ?_ ?_ <;> simp [List.range_succ, toIdx_range, passed, keepT, insC, *]
              · try simp at h5
                refine EV.skip ?_
                simp only [thenK_normal, blockK_normal, scopeK_normal]
                have hnD : nowD x now = now := by simp [nowD, writesD, *]
                refine ⟨⟨(), hrd⟩, ?_⟩
                refine Sub.cutE 4 [true, false, false, true, true, true, true, true, false, false, false, false, false, false, false, false, false, false, false, false, false, false, false, false, false, false, false, false, false, false, false, false, false, false, false, false, false, false, false, false, false, false, false, false, false, false, false, false, false, false, false, false, false, false, false, false, false, false, false, false, false, false, false, false, false, false, false, false, false, false, false, false, false, false, false, false, false, false, false, false, false, false, false, false, false, false, false, false, false, false, false, false, false, false, false, false, false, false, false, false, false, false, false, false, false, false, false, false, false, false, false, false, false, false, false, false, false, false] (by simp) ?_ ?_ <;> simp [List.range_succ, toIdx_range, passed, keepT, insC, *]
            · skip
              rintro ⟨_, hrd⟩
              simp only
              refine EV.seq ?_
              refine EV.regionG tabOK ?_ -- region 18
              simp -implicitDefEqProofs [insC]
              refine EV.seqI ((fun _ => ⟨[.ptr 0 0 0 0, .junk, .junk, .mp 1, .sl 2 ep 0 s.length, .junk, .junk, .i .u32 (nowD x now : Nat), .junk, .junk, .junk, .junk, .ro 1 ((nextD x p).map fun z => [n z]), .junk, .junk, .junk, .junk, .junk, .junk, .junk, .junk, .junk, .junk, .junk, .junk, .junk, .junk, .junk, .junk, .junk, .junk, .junk, .junk, .junk, .junk, .junk, .junk, .junk, .junk, .junk, .junk, .junk, .junk, .junk, .junk, .junk, .junk, .junk, .junk, .junk, .junk, .junk, .junk, .junk, .junk, .junk, .junk, .junk, .junk, .junk, .junk, .junk, .junk, .junk, .junk, .junk, .junk, .junk, .junk, .junk, .junk, .junk, .junk, .junk, .junk, .junk, .junk, .junk, .junk, .junk, .junk, .junk, .junk, .junk, .junk, .junk, .junk, .junk, .junk, .junk, .junk, .junk, .junk, .junk, .junk, .junk, .junk, .junk, .junk, .junk, .junk, .junk, .junk, .junk, .junk, .junk, .junk, .junk, .junk, .junk, .junk, .junk, .junk, .junk, .junk, .junk, .junk, .junk], [.arr 0 5 [[.ro 1 F, .ro 5 C, .ro 1 (ks.map fun z => [n z]), .ro 5 (f.map insC), n kind]], .mp .i64 (mU w), .arr ep 1 ((s ++ p :: tl).map fun z => [n z])]⟩ : Unit → St)) ?_ ?_
              · skip
                refine EV.seq ?_
                refine EV.regionG tabOK ?_ -- region 19
                simp -implicitDefEqProofs [insC]
                refine callG_fun (walk16 x.op x.a x.b x.c x.l) ?_ ?_
                · simp [insV]
                simp -implicitDefEqProofs
                refine EV.condT ?_
                simp -implicitDefEqProofs
                refine condT_intro (fun h6 => ?_) (fun h6 => ?_)
                · try simp at h6
                  have hwp : IntKind.i64.wrap (p + 1) = p + 1 := wrap_in _ (by omega) (by omega)
                  have hroom : roomFor (x.l.length + 1) 8 := room8 (by omega)
                  refine EV.regionG tabOK ?_ -- region 20
                  simp -implicitDefEqProofs [insC]
                  refine callG_own [] rfl (walk50 x.l hll) ?_ ?_ ?_ ?_ ?_ ?_
                  · simp
                  · simp
                  · simp
                  · simp
                  · simp
                  simp -implicitDefEqProofs [keys, callUpd, List.range_succ, hwp, hroom]
                  refine ⟨(), ?_⟩
                  refine Sub.cutRo 3 [true, false, false, true, true, false, false, true, false, false, false, false, false, false, false, false, false, false, false, false, false, false, false, false, false, false, false, false, false, false, false, false, false, false, false, false, false, false, false, false, false, false, false, false, false, false, false, false, false, false, false, false, false, false, false, false, false, false, false, false, false, false, false, false, false, false, false, false, false, false, false, false, false, false, false, false, false, false, false, false, false, false, false, false, false, false, false, false, false, false, false, false, false, false, false, false, false, false, false, false, false, false, false, false, false, false, false, false, false, false, false, false, false, false, false, false, false, false] (by simp) 12 (o := 4) (ep := 2) (off := 0) (len := x.l.length + 1) (sz := 1) (es := ((nextD x p).map fun z => [n z])) ?_ (by simp) ?_ ?_ (row_sz _) (row_pu _) ?_ ?_ <;> simp [List.range_succ, toIdx_range, passed, keepT, nextD, List.take_of_length_le, Pu, *]
                · try simp at h6
                  refine EV.skip ?_
                  simp only [thenK_normal, blockK_normal, scopeK_normal]
                  refine ⟨(), ?_⟩
                  refine Sub.cutE 3 [true, false, false, true, true, false, false, true, false, false, false, false, true, false, false, false, false, false, false, false, false, false, false, false, false, false, false, false, false, false, false, false, false, false, false, false, false, false, false, false, false, false, false, false, false, false, false, false, false, false, false, false, false, false, false, false, false, false, false, false, false, false, false, false, false, false, false, false, false, false, false, false, false, false, false, false, false, false, false, false, false, false, false, false, false, false, false, false, false, false, false, false, false, false, false, false, false, false, false, false, false, false, false, false, false, false, false, false, false, false, false, false, false, false, false, false, false, false] (by simp) ?_ ?_ <;> simp [List.range_succ, toIdx_range, passed, keepT, nextD, *]
              · skip
                rintro ⟨⟩
                simp only
                refine EV.seq ?_
                have hnl : (nextD x p).length ≤ 1000001 := by unfold nextD; split <;> simp <;> omega
                refine EV.regionG tabOK ?_ -- region 21
                simp -implicitDefEqProofs
                refine EV.block ?_
                refine EV.loopB ((fun y => ⟨[.ptr 0 0 0 0, .junk, .junk, .mp 1, .sl 2 y.1.2.1.1 0 y.1.2.1.2.length, .junk, .junk, .i .u32 (nowD x now : Nat), .junk, .junk, .junk, .junk, .junk, .junk, .junk, .junk, .junk, .junk, .junk, .junk, .junk, .junk, .junk, .junk, .junk, .junk, .junk, .junk, .junk, .junk, .junk, .junk, .junk, .junk, .junk, .junk, .junk, .junk, .junk, .junk, .junk, .junk, .junk, .junk, .junk, .junk, .junk, .junk, .junk, .junk, .junk, .junk, .junk, .junk, .junk, .junk, .junk, .junk, .junk, .junk, .junk, .junk, .junk, .junk, .junk, .junk, .junk, .junk, .junk, .junk, .junk, .junk, .junk, .junk, .junk, .junk, .junk, .junk, .junk, .junk, .junk, .junk, .junk, .junk, .ro 1 ((nextD x p).map fun z => [n z]), n (nextD x p).length, n y.1.1, .junk, .junk, .junk, .junk, .junk, .junk, .junk, .junk, .junk, .junk, .junk, .junk, .junk, .junk, .junk, .junk, .junk, .junk, .junk, .junk, .junk, .junk, .junk, .junk, .junk, .junk, .junk, .junk, .junk, .junk, .junk], [.arr 0 5 [[.ro 1 F, .ro 5 C, .ro 1 (ks.map fun z => [n z]), .ro 5 (f.map insC), n kind]], .mp .i64 (mU (y.1.2.2.2)), .arr (y.1.2.1.1) 1 ((y.1.2.1.2 ++ y.1.2.2.1).map fun z => [n z])]⟩ : { y : Nat × (Nat × List Int) × List Int × WM // y.1 ≤ (nextD x p).length ∧ WInv f (k0D kind) p now y.1 y.2.1.2 y.2.2.2 ∧ 2 * phi f.length y.2.2.2 + y.2.1.2.length ≤ 2 * phi f.length w + s.length } → St)) (fun y => (nextD x p).length - y.1.1) (⟨(0, (ep, s), p :: tl, w), by simp, hI.pop hnow hx hrd, by simp⟩) ?_ ?_
                · skip
                  simp
                  refine Sub.cutE 3 [true, false, false, true, true, false, false, true, false, false, false, false, false, false, false, false, false, false, false, false, false, false, false, false, false, false, false, false, false, false, false, false, false, false, false, false, false, false, false, false, false, false, false, false, false, false, false, false, false, false, false, false, false, false, false, false, false, false, false, false, false, false, false, false, false, false, false, false, false, false, false, false, false, false, false, false, false, false, false, false, false, false, false, false, true, true, true, false, false, false, false, false, false, false, false, false, false, false, false, false, false, false, false, false, false, false, false, false, false, false, false, false, false, false, false, false, false, false] (by simp) ?_ ?_ <;> simp [List.range_succ, toIdx_range, passed, keepT, *]
                · skip
                  rintro ⟨⟨i, ⟨ep2, s2⟩, tl2, w2⟩, hi, hW, hM2⟩
                  simp only at hi hW hM2 ⊢
                  refine EV.seq ?_
                  refine EV.regionG tabOK ?_ -- region 22
                  simp -implicitDefEqProofs
                  refine EV.seq ?_
                  refine EV.condT ?_
                  simp -implicitDefEqProofs
                  refine condT_intro (fun h7 => ?_) (fun h7 => ?_)
                  · try simp at h7
                    refine EV.skip ?_
                    simp only [thenK_normal, blockK_normal, scopeK_normal]
                    refine EV.seq ?_
                    refine EV.block ?_
                    refine EV.seq ?_
                    have hiN : i < (nextD x p).length := by first | assumption | omega
                    have hph2 := phi_le (m := f.length) (w := w2)
                    have hroom : roomFor (s2.length + 1) 8 := room8 (by omega)
                    have hnn := nowD_lt hn32 (H.wr x hxm)
                    refine EV.regionG tabOK ?_ -- region 23
                    simp -implicitDefEqProofs [hiN]
                    refine EV.seq ?_
                    rcases hq : w2 (nextD x p)[i] with _ | was
                    · skip
                      refine EV.regionG tabOK ?_ -- region 24
                      simp -implicitDefEqProofs [hq]
                      refine EV.seq ?_
                      refine EV.seq ?_
                      refine EV.regionG tabOK ?_ -- region 25
                      simp -implicitDefEqProofs +contextual
                      refine EV.condT ?_
                      simp -implicitDefEqProofs
                      refine EV.skip ?_
                      simp only [thenK_normal, blockK_normal, scopeK_normal]
                      refine EV.seq ?_
                      refine EV.seq ?_
                      refine EV.regionG tabOK ?_ -- region 26
                      simp -implicitDefEqProofs
                      refine EV.condT ?_
                      simp -implicitDefEqProofs
                      refine EV.regionG tabOK ?_ -- region 28
                      simp -implicitDefEqProofs
                      refine EV.regionG tabOK ?_ -- region 29
                      simp -implicitDefEqProofs [hroom]
                      refine EV.regionG tabOK ?_ -- region 30
                      simp -implicitDefEqProofs
                      have hw : IntKind.i64.wrap ((i : Int) + 1) = (i : Int) + 1 := wrap_in _ (by omega) (by omega)
                      have hph := phi_push hW H hp0 hx (List.getElem_mem hiN) (v := nowD x now) (.inl ⟨hq, rfl⟩)
                      refine ⟨⟨(i + 1, (ep2 + 1, s2 ++ [(nextD x p)[i]]), [], setW w2 (nextD x p)[i] (nowD x now)), by simp; omega, hW.push H hp0 hx hiN rfl (hI.low p now hnow) hn32 (.inl ⟨hq, rfl⟩), by simp; omega⟩, by simp; omega, ?_⟩
                      refine Sub.cutE 3 [true, false, false, true, true, false, false, true, false, false, false, false, false, false, false, false, false, false, false, false, false, false, false, false, false, false, false, false, false, false, false, false, false, false, false, false, false, false, false, false, false, false, false, false, false, false, false, false, false, false, false, false, false, false, false, false, false, false, false, false, false, false, false, false, false, false, false, false, false, false, false, false, false, false, false, false, false, false, false, false, false, false, false, false, true, true, true, false, false, false, false, false, false, false, false, false, false, false, false, false, false, false, false, false, false, false, false, false, false, false, false, false, false, false, false, false, false, false] (by simp) ?_ ?_ <;> simp [List.range_succ, toIdx_range, passed, keepT, *]
                    · skip
                      refine EV.regionG tabOK ?_ -- region 24
                      simp -implicitDefEqProofs [hq]
                      refine EV.seq ?_
                      refine EV.seq ?_
                      have hw32 := (hW.key _ _ hq).2.2
                      have hia := iand_nat hw32 hnn
                      refine EV.regionG tabOK ?_ -- region 25
                      simp -implicitDefEqProofs +contextual [hia]
                      refine EV.condT ?_
                      simp -implicitDefEqProofs
                      refine condT_intro (fun h8 => ?_) (fun h8 => ?_)
                      · try simp at h8
                        refine EV.exit ?_
                        simp -implicitDefEqProofs
                        refine EV.regionG tabOK ?_ -- region 30
                        simp -implicitDefEqProofs
                        have hw : IntKind.i64.wrap ((i : Int) + 1) = (i : Int) + 1 := wrap_in _ (by omega) (by omega)
                        refine ⟨⟨(i + 1, (ep2, s2), tl2, w2), by simp; omega, hW.keep H hp0 hx hiN rfl hq (by omega), hM2⟩, by simp; omega, ?_⟩
                        refine Sub.cutE 3 [true, false, false, true, true, false, false, true, false, false, false, false, false, false, false, false, false, false, false, false, false, false, false, false, false, false, false, false, false, false, false, false, false, false, false, false, false, false, false, false, false, false, false, false, false, false, false, false, false, false, false, false, false, false, false, false, false, false, false, false, false, false, false, false, false, false, false, false, false, false, false, false, false, false, false, false, false, false, false, false, false, false, false, false, true, true, true, false, false, false, false, false, false, false, false, false, false, false, false, false, false, false, false, false, false, false, false, false, false, false, false, false, false, false, false, false, false, false] (by simp) ?_ ?_ <;> simp [List.range_succ, toIdx_range, passed, keepT, *]
                      · try simp at h8
                        refine EV.skip ?_
                        simp only [thenK_normal, blockK_normal, scopeK_normal]
                        refine EV.seq ?_
                        refine EV.seq ?_
                        refine EV.regionG tabOK ?_ -- region 26
                        simp -implicitDefEqProofs
                        refine EV.condT ?_
                        simp -implicitDefEqProofs
                        refine EV.regionG tabOK ?_ -- region 27
                        simp -implicitDefEqProofs [hia]
                        refine EV.regionG tabOK ?_ -- region 29
                        simp -implicitDefEqProofs [hroom]
                        refine EV.regionG tabOK ?_ -- region 30
                        simp -implicitDefEqProofs
                        have hw : IntKind.i64.wrap ((i : Int) + 1) = (i : Int) + 1 := wrap_in _ (by omega) (by omega)
                        have hv : (w2 (nextD x p)[i] = none ∧ was &&& nowD x now = nowD x now) ∨ ∃ u, w2 (nextD x p)[i] = some u ∧ was &&& nowD x now = u &&& nowD x now := .inr ⟨was, hq, rfl⟩
                        have hph := phi_push hW H hp0 hx (List.getElem_mem hiN) (v := was &&& nowD x now) (.inr ⟨was, hq, rfl, by omega⟩)
                        refine ⟨⟨(i + 1, (ep2 + 1, s2 ++ [(nextD x p)[i]]), [], setW w2 (nextD x p)[i] (was &&& nowD x now)), by simp; omega, hW.push H hp0 hx hiN rfl (hI.low p now hnow) hn32 hv, by simp; omega⟩, by simp; omega, ?_⟩
                        refine Sub.cutE 3 [true, false, false, true, true, false, false, true, false, false, false, false, false, false, false, false, false, false, false, false, false, false, false, false, false, false, false, false, false, false, false, false, false, false, false, false, false, false, false, false, false, false, false, false, false, false, false, false, false, false, false, false, false, false, false, false, false, false, false, false, false, false, false, false, false, false, false, false, false, false, false, false, false, false, false, false, false, false, false, false, false, false, false, false, true, true, true, false, false, false, false, false, false, false, false, false, false, false, false, false, false, false, false, false, false, false, false, false, false, false, false, false, false, false, false, false, false, false] (by simp) ?_ ?_ <;> simp [List.range_succ, toIdx_range, passed, keepT, *]
                  · try simp at h7
                    refine EV.exit ?_
                    simp -implicitDefEqProofs
                    refine ⟨⟨((ep2, s2), tl2, w2), hW.close hx (by omega), by dsimp only; omega⟩, by simp; omega, ?_⟩
                    refine Sub.cutE 3 [true, false, false, true, true, false, false, false, false, false, false, false, false, false, false, false, false, false, false, false, false, false, false, false, false, false, false, false, false, false, false, false, false, false, false, false, false, false, false, false, false, false, false, false, false, false, false, false, false, false, false, false, false, false, false, false, false, false, false, false, false, false, false, false, false, false, false, false, false, false, false, false, false, false, false, false, false, false, false, false, false, false, false, false, false, false, false, false, false, false, false, false, false, false, false, false, false, false, false, false, false, false, false, false, false, false, false, false, false, false, false, false, false, false, false, false, false, false] (by simp) ?_ ?_ <;> simp [List.range_succ, toIdx_range, passed, keepT, *]
      · try simp at h2
        refine EV.exit ?_
        simp -implicitDefEqProofs
        refine EV.seq ?_
        have hs : s = [] := by first | exact h2 | (simpa using h2)
        subst hs
        have hb := hI.last H
        refine EV.regionG tabOK ?_ -- region 31
        simp -implicitDefEqProofs
        refine EV.ret ?_
        simp only [thenK_ret, blockK_ret, scopeK_ret, bodyK_ret]
        refine Fin.plain ?_ ?_
        · simp [hb]
        · simp [List.range_succ]

end Go.Proofs.Tryd
end
section
namespace Go.Proofs.Tryd
open Go Go.AM

def oneD (C : Nat) (ks : List Int) (g : Nat) (kind : Int) (x : InsD) : Bool := oneI C ks g kind x.op x.a x.b x.c x.l
def lastFalls (f : List InsD) : Bool := match f.getLast? with
  | some x => fallsI x.op
  | none => false

theorem rd_mem {f v r : Int} (h : r ∈ rd f v) : f = 1 ∧ r = v := by
  unfold rd at h
  split at h
  · exact ⟨by assumption, List.mem_singleton.1 h⟩
  · cases h
theorem field_reg {C : Nat} {ks : List Int} {f v : Int} (hf : f = 1 ∨ f = 2) (h : fieldI C ks f v = true) : 0 ≤ v ∧ v < 16 := by
  unfold fieldI at h
  rw [if_pos hf] at h
  simpa using h

theorem FunOK.of {f : List InsD} {C : Nat} {ks : List Int} {kind : Int} (h0 : 0 < f.length) (h1 : f.length ≤ 65536) (hl : lastFalls f = false) (ha : ∀ x ∈ f, oneD C ks f.length kind x = true) (hll : ∀ x ∈ f, x.l.length ≤ 1000000) : FunOK f := by
  have parts : ∀ x ∈ f, fieldI C ks (shape x.op).1.1 x.a = true ∧ fieldI C ks (shape x.op).1.2.1 x.b = true ∧ fieldI C ks (shape x.op).1.2.2.1 x.c = true ∧ ∀ q ∈ x.l, 0 ≤ q ∧ q < f.length := by
    intro x hx
    have h := ha x hx
    unfold oneD oneI at h
    simp only [Bool.and_eq_true, Bool.not_eq_true'] at h
    obtain ⟨⟨⟨_, h2, h3, h4, _⟩, _⟩, h5⟩ := h
    refine ⟨h2, h3, h4, fun q hq => ?_⟩
    have := List.any_eq_false.1 h5 q hq
    simpa [outP] using this
  refine ⟨List.length_pos_iff.1 h0, h1, fun x hx r hr => ?_, fun x hx hw => ?_, fun p x hp hx q hq => ?_, hll⟩
  · obtain ⟨h2, h3, h4, _⟩ := parts x hx
    have hr' : r ∈ Tryd.rd (shape x.op).1.1 x.a ++ Tryd.rd (shape x.op).1.2.1 x.b ++ Tryd.rd (shape x.op).1.2.2.1 x.c := hr
    rcases List.mem_append.1 hr' with h | h
    · rcases List.mem_append.1 h with h | h
      · obtain ⟨e1, rfl⟩ := rd_mem h; exact field_reg (.inl e1) h2
      · obtain ⟨e1, rfl⟩ := rd_mem h; exact field_reg (.inl e1) h3
    · obtain ⟨e1, rfl⟩ := rd_mem h; exact field_reg (.inl e1) h4
  · exact field_reg (.inr (of_decide_eq_true hw)) (parts x hx).1
  · have hx' := List.mem_of_getElem? hx
    unfold nextD at hq
    rcases List.mem_append.1 hq with h | h
    · exact (parts x hx').2.2.2 q h
    · split at h
      · rename_i hf
        rw [List.mem_singleton.1 h]
        have hlt : p.toNat < f.length := (List.getElem?_eq_some_iff.1 hx).1
        refine ⟨by omega, Classical.byContradiction fun hge => ?_⟩
        have he : p.toNat = f.length - 1 := by omega
        have : lastFalls f = true := by
          unfold lastFalls
          rw [List.getLast?_eq_getElem?, ← he, hx]
          exact hf
        rw [hl] at this; cases this
      · cases h

noncomputable def rightB (C : Nat) (ks : List Int) (kind : Int) (f : List InsD) : Bool :=
  decide (0 < f.length) && decide (f.length ≤ 65536) && !lastFalls f && f.all (oneD C ks f.length kind) && waysB f (startS (if kind = 0 then 1 else 0))

theorem right_cases (f : List InsD) : f = [] ∨ 65536 < f.length ∨ ∃ g x, f = g ++ [x] ∧ f.length ≤ 65536 := by
  rcases List.eq_nil_or_concat f with h | ⟨g, x, h⟩
  · exact .inl h
  · by_cases hs : f.length ≤ 65536
    · exact .inr (.inr ⟨g, x, by simpa using h, hs⟩)
    · exact .inr (.inl (by omega))
theorem lastFalls_snoc {g : List InsD} {x : InsD} : lastFalls (g ++ [x]) = fallsI x.op := by simp [lastFalls]
theorem takeD {p : InsD → Bool} {l : List InsD} {i : Nat} (h : i < l.length) (hp : p l[i] = true) (hn : ∀ x ∈ l.take i, p x = true) : ∀ x ∈ l.take (i + 1), p x = true := by
  intro x hx
  rw [← List.take_append_getElem h] at hx
  rcases List.mem_append.1 hx with h1 | h1
  · exact hn x h1
  · rw [List.mem_singleton.1 h1]; exact hp

def coroB (ks : List Int) (res can words args : Int) : Bool :=
  (decide (0 ≤ res) && decide (res < ks.length)) && ((decide (0 ≤ can) && decide (can < ks.length)) && decide (ks.getD can.toNat 0 = 2)) && (decide (3 ≤ words) && (decide (words ≤ 1048576) && (decide (0 ≤ args) && decide (args < words - 3 + 1))))
end Go.Proofs.Tryd
end
section
namespace Go.Proofs.Tryd
open Go Go.AM
attribute [local simp] wpG_op wpG_nil contG_some wpG_guard guardG_v guardG_o guardG_tup gval pureOp stepG_if isPick pickG_pick pickB_b pickOK isCall step_move step_assign step_alloc step_box boxV_some step_load step_store step_binOp step_unOp step_fieldAddr faV step_indexAddr ixA_slc ixA_arr step_extract extV_tup step_nilCheck ncV_ptr ncV_rp ncV_fn ncV_mp step_build buildV step_buildSlice bsV step_index ixV_arr ixV_str step_append apB step_makeSlice msV_i step_makeFunc over step_len step_makeMap mmV step_mapUpdate step_insert muA_map muB_mp step_lookup lkA_map lkB_mp step_slice slcV_s slcV_sl slcV_ro cutB_some slObV_arr bound_none bound_some bndV_i lenB_str lenB_ro lenB_sl lenB_nil lenB_z ld_ptr ld_rp offV_ptr offV_rp idxV_ro idxV_sl unV_not unV_neg binV_int binV_str binV_eqlb binV_neqb intOp strOp St.put updL setOb St.ev toV St.lk cellsOf valOf TK.agg stv fillV places TI.zero condT_true condT_false finS resL resSlot packV ren ren1 ren0 Value.cells builtinV appendV elemsOf keepT room_of wrap_in toIdx passed Function.comp_def take_len_map lenV touchOf hid tab1 tab2 tab3 tab4 tab5 tab6 tab7 tab8 tab9 tab10 tab11 tab12 tab13 tab14 tab15 tab16 tab17 tab18 tab19 tab20 tab21 tab22 tab23 tab24 tab25 tab26 tab28 tab29 tab30 tab31 tab32 tab33 tab34 tab35 tab36 tab37 tab38 tab39 tab40 tab41 tab42 tab43 tab44 tab45 tab46 tab48 tab49 tab50 tab51 tab52 tab53 tab54 tab55 tab56 tab57 tab58 tab59 tab60 tab61 tab62 tab63 tab64 tab65 tab67 tab68 tab69 tab70 tab71 tab72 tab73 tab74 tab75 tab76 tab77 tab78 tab79 tab80 tab81 tab82 tab83 tab84 tab85 tab86 tab89 tab90 tab91 tab92 tab93 tab94 tab95 tab96 tab98 tab99 tab100 tab101 tab102 tab103 tab104 tab105 tab106 tab107 tab108 tab109 tab113 tab114 tab115 tab116 tab117 tab118 tab119 tab120 ren_arr ren_gone ren_unborn
set_option linter.unusedSimpArgs false
set_option maxRecDepth 10000
set_option maxHeartbeats 4000000

theorem snoc_map {g : InsD → List V} {s : List InsD} {a : List V} {r : List (List V)} : (List.map g s ++ a :: r)[s.length]? = some a := by
  rw [List.getElem?_append_right (by simp)]; simp
theorem walk30 (F C : List (List V)) (ks : List Int) (kind : Int) (f : List InsD) (hll : ∀ x ∈ f, x.l.length ≤ 1000000) : QC prog 30 [.ptr 0 0 0 0] [chkO F C ks (f.map insC) kind] (.b (rightB C.length ks kind f)) [chkO F C ks (f.map insC) kind] := by
  refine QC.of_body tabOK func30 rfl (by kernel_rfl) ?_
  simp only [f30, chkO]
  refine EV.seq ?_
  refine EV.regionG tabOK ?_ -- region 0
  simp -implicitDefEqProofs
  refine EV.seq ?_
  refine EV.regionG tabOK ?_ -- region 1
  simp -implicitDefEqProofs
  refine EV.seq ?_
  refine EV.seq ?_
  rcases right_cases f with h0 | hgt | ⟨g, x, hg, hle⟩
  · skip
    subst h0
    refine EV.regionG tabOK ?_ -- region 2
    simp -implicitDefEqProofs +contextual
    refine EV.condT ?_
    simp -implicitDefEqProofs
    refine EV.seq ?_
    have hb : rightB C.length ks kind [] = false := by simp [rightB]
    refine EV.regionG tabOK ?_ -- region 3
    simp -implicitDefEqProofs
    refine EV.ret ?_
    simp only [thenK_ret, blockK_ret, scopeK_ret, bodyK_ret]
    refine Fin.plain ?_ ?_
    · simp [hb]
    · simp [List.range_succ]
  · skip
    have hn1 : ¬ (f.length : Int) < 1 := by omega
    have hgt : (65536 : Int) < f.length := by omega
    refine EV.regionG tabOK ?_ -- region 2
    simp -implicitDefEqProofs +contextual [hn1, hgt]
    refine EV.condT ?_
    simp -implicitDefEqProofs
    refine EV.seq ?_
    have hb : rightB C.length ks kind f = false := by
      have h9 : ¬ f.length ≤ 65536 := by omega
      simp [rightB, h9]
    refine EV.regionG tabOK ?_ -- region 3
    simp -implicitDefEqProofs
    refine EV.ret ?_
    simp only [thenK_ret, blockK_ret, scopeK_ret, bodyK_ret]
    refine Fin.plain ?_ ?_
    · simp [hb]
    · simp [List.range_succ]
  · skip
    have hn1 : ¬ (f.length : Int) < 1 := by rw [hg]; simp; omega
    have hle2 : ¬ (65536 : Int) < f.length := by omega
    have hlen : f.length = g.length + 1 := by rw [hg]; simp
    have hlI : (f.length : Int) = (g.length : Int) + 1 := by omega
    have hwl : IntKind.i64.wrap ((f.length : Int) - 1) = (g.length : Int) := by rw [wrap_in _ (by omega) (by omega)]; omega
    have hxe : f[g.length]'(by omega) = x := by simp [hg]
    have hgl : (g.length : Int) < f.length := by omega
    have hgl2 : g.length < f.length := by omega
    refine EV.regionG tabOK ?_ -- region 2
    simp -implicitDefEqProofs +contextual [hn1, hle2, hwl, hxe, hgl, hgl2, insC]
    refine callG_fun (walk16 x.op x.a x.b x.c x.l) ?_ ?_
    · simp [insV]
    simp -implicitDefEqProofs
    refine EV.condT ?_
    simp -implicitDefEqProofs
    refine condT_intro (fun h1 => ?_) (fun h1 => ?_)
    · try simp at h1
      refine EV.seq ?_
      have hlf : lastFalls f = true := by rw [hg, lastFalls_snoc]; first | assumption | simpa using h1
      have hb : rightB C.length ks kind f = false := by simp [rightB, hlf]
      refine EV.regionG tabOK ?_ -- region 3
      simp -implicitDefEqProofs
      refine EV.ret ?_
      simp only [thenK_ret, blockK_ret, scopeK_ret, bodyK_ret]
      refine Fin.plain ?_ ?_
      · simp [hb]
      · simp [List.range_succ]
    · try simp at h1
      refine EV.skip ?_
      simp only [thenK_normal, blockK_normal, scopeK_normal]
      refine EV.seq ?_
      refine EV.seq ?_
      have hlf : lastFalls f = false := by rw [hg, lastFalls_snoc]; first | assumption | simpa using h1
      refine EV.regionG tabOK ?_ -- region 4
      simp -implicitDefEqProofs
      refine EV.block ?_
      refine EV.loopB ((fun i => ⟨[.ptr 0 0 0 0, .junk, .junk, .junk, .junk, .junk, .junk, .junk, .junk, .junk, .junk, .junk, .junk, .junk, .junk, .junk, .junk, .junk, .junk, .junk, .junk, .junk, .junk, .junk, .junk, .junk, .junk, .junk, .junk, .junk, .junk, .ro 5 (f.map insC), n f.length, n i.1, .junk, .junk, .junk, .junk, .junk, .junk, .junk, .junk, .junk, .junk], [.arr 0 5 [[.ro 1 F, .ro 5 C, .ro 1 (ks.map fun z => [n z]), .ro 5 (f.map insC), n kind]]]⟩ : { i : Nat // i ≤ f.length ∧ ∀ x ∈ f.take i, oneD C.length ks f.length kind x = true } → St)) (fun i => f.length - i.1) (⟨0, by simp⟩) ?_ ?_
      · skip
        simp
        refine Sub.cutE 1 [true, false, false, false, false, false, false, false, false, false, false, false, false, false, false, false, false, false, false, false, false, false, false, false, false, false, false, false, false, false, false, true, true, true, false, false, false, false, false, false, false, false, false, false] (by simp) ?_ ?_ <;> simp [List.range_succ, toIdx_range, passed, keepT, *]
      · skip
        rintro ⟨i, hi, hp⟩
        simp only
        refine EV.seq ?_
        refine EV.regionG tabOK ?_ -- region 5
        simp -implicitDefEqProofs
        refine EV.seq ?_
        refine EV.condT ?_
        simp -implicitDefEqProofs
        refine condT_intro (fun h2 => ?_) (fun h2 => ?_)
        · try simp at h2
          refine EV.skip ?_
          simp only [thenK_normal, blockK_normal, scopeK_normal]
          refine EV.seq ?_
          refine EV.block ?_
          refine EV.seq ?_
          have hiF : i < f.length := by first | assumption | omega
          have hlx := hll _ (List.getElem_mem hiF)
          refine EV.regionG tabOK ?_ -- region 6
          simp -implicitDefEqProofs [hiF, insC]
          refine EV.seq ?_
          refine EV.regionG tabOK ?_ -- region 7
          simp -implicitDefEqProofs
          refine callG_own [0] rfl (walk38 F C (f.map insC) ks kind f[i].op f[i].a f[i].b f[i].c f[i].l hlx) ?_ ?_ ?_ ?_ ?_ ?_
          · simp [insV]
          · simp [chkO]
          · simp
          · simp
          · simp [chkO]
          simp -implicitDefEqProofs [keys, callUpd, chkO, List.range_succ]
          refine EV.condT ?_
          simp -implicitDefEqProofs
          refine condT_intro (fun h3 => ?_) (fun h3 => ?_)
          · try simp at h3
            refine EV.seq ?_
            have hb : rightB C.length ks kind f = false := by
                have h9 : f.all (oneD C.length ks f.length kind) = false := by
                  rw [List.all_eq_false]; exact ⟨f[i], List.getElem_mem hiF, by simp [oneD, h3]⟩
                simp [rightB, h9]
            refine EV.regionG tabOK ?_ -- region 8
            simp -implicitDefEqProofs
            refine EV.ret ?_
            simp only [thenK_ret, blockK_ret, scopeK_ret, bodyK_ret]
            refine Fin.plain ?_ ?_
            · simp [hb]
            · simp [List.range_succ]
          · try simp at h3
            refine EV.skip ?_
            simp only [thenK_normal, blockK_normal, scopeK_normal]
            refine EV.regionG tabOK ?_ -- region 9
            simp -implicitDefEqProofs
            have hw : IntKind.i64.wrap ((i : Int) + 1) = (i : Int) + 1 := wrap_in _ (by omega) (by omega)
            refine ⟨⟨i + 1, by omega, takeD hiF (by first | assumption | simpa using h2 | simpa using h3 | simpa using h4 | simpa using h5) hp⟩, by simp; omega, ?_⟩
            refine Sub.cutE 1 [true, false, false, false, false, false, false, false, false, false, false, false, false, false, false, false, false, false, false, false, false, false, false, false, false, false, false, false, false, false, false, true, true, true, false, false, false, false, false, false, false, false, false, false] (by simp) ?_ ?_ <;> simp [List.range_succ, toIdx_range, passed, keepT, *]
        · try simp at h2
          refine EV.exit ?_
          simp -implicitDefEqProofs
          refine EV.seq ?_
          have hT : f.take i = f := List.take_of_length_le (by omega)
          rw [hT] at hp
          have HF := FunOK.of (by omega) hle hlf hp hll
          have hb : rightB C.length ks kind f = waysB f (startS (k0D kind)) := by
              have h8 : 0 < f.length := by omega
              have h9 : f.all (oneD C.length ks f.length kind) = true := List.all_eq_true.2 hp
              simp [rightB, h8, h9, hle, hlf, k0D]
          refine EV.regionG tabOK ?_ -- region 10
          simp -implicitDefEqProofs
          refine callG_own [0] rfl (walk39 F C ks kind f HF) ?_ ?_ ?_ ?_ ?_ ?_
          · simp
          · simp [chkO]
          · simp
          · simp
          · simp [chkO]
          simp -implicitDefEqProofs [keys, callUpd, chkO, List.range_succ]
          refine EV.ret ?_
          simp only [thenK_ret, blockK_ret, scopeK_ret, bodyK_ret]
          refine Fin.plain ?_ ?_
          · simp [hb]
          · simp [List.range_succ]

end Go.Proofs.Tryd
end
section
namespace Go.Proofs.Tryd
open Go Go.AM
attribute [local simp] wpG_op wpG_nil contG_some wpG_guard guardG_v guardG_o guardG_tup gval pureOp stepG_if isPick pickG_pick pickB_b pickOK isCall step_move step_assign step_alloc step_box boxV_some step_load step_store step_binOp step_unOp step_fieldAddr faV step_indexAddr ixA_slc ixA_arr step_extract extV_tup step_nilCheck ncV_ptr ncV_rp ncV_fn ncV_mp step_build buildV step_buildSlice bsV step_index ixV_arr ixV_str step_append apB step_makeSlice msV_i step_makeFunc over step_len step_makeMap mmV step_mapUpdate step_insert muA_map muB_mp step_lookup lkA_map lkB_mp step_slice slcV_s slcV_sl slcV_ro cutB_some slObV_arr bound_none bound_some bndV_i lenB_str lenB_ro lenB_sl lenB_nil lenB_z ld_ptr ld_rp offV_ptr offV_rp idxV_ro idxV_sl unV_not unV_neg binV_int binV_str binV_eqlb binV_neqb intOp strOp St.put updL setOb St.ev toV St.lk cellsOf valOf TK.agg stv fillV places TI.zero condT_true condT_false finS resL resSlot packV ren ren1 ren0 Value.cells builtinV appendV elemsOf keepT room_of wrap_in toIdx passed Function.comp_def take_len_map lenV touchOf hid tab1 tab2 tab3 tab4 tab5 tab6 tab7 tab8 tab9 tab10 tab11 tab12 tab13 tab14 tab15 tab16 tab17 tab18 tab19 tab20 tab21 tab22 tab23 tab24 tab25 tab26 tab28 tab29 tab30 tab31 tab32 tab33 tab34 tab35 tab36 tab37 tab38 tab39 tab40 tab41 tab42 tab43 tab44 tab45 tab46 tab48 tab49 tab50 tab51 tab52 tab53 tab54 tab55 tab56 tab57 tab58 tab59 tab60 tab61 tab62 tab63 tab64 tab65 tab67 tab68 tab69 tab70 tab71 tab72 tab73 tab74 tab75 tab76 tab77 tab78 tab79 tab80 tab81 tab82 tab83 tab84 tab85 tab86 tab89 tab90 tab91 tab92 tab93 tab94 tab95 tab96 tab98 tab99 tab100 tab101 tab102 tab103 tab104 tab105 tab106 tab107 tab108 tab109 tab113 tab114 tab115 tab116 tab117 tab118 tab119 tab120 ren_arr ren_gone ren_unborn
set_option linter.unusedSimpArgs false
set_option maxRecDepth 10000
set_option maxHeartbeats 4000000

theorem cases3 (p q : Bool) : p = false ∨ (p = true ∧ q = false) ∨ (p = true ∧ q = true) := by cases p <;> cases q <;> simp
theorem walk29 (ks : List Int) (nm : List UInt8) (res can words args : Int) : QC prog 29 [.ro 1 (ks.map fun z => [n z]), .agg [.s nm, n res, n can, n words, n args]] [] (.b (coroB ks res can words args)) [] := by
  refine QC.of_body tabOK func29 rfl (by kernel_rfl) ?_
  simp only [f29]
  refine EV.seq ?_
  refine EV.regionG tabOK ?_ -- region 0
  simp -implicitDefEqProofs
  refine EV.seq ?_
  refine EV.seq ?_
  rcases cases3 (decide (0 ≤ res) && decide (res < (ks.length : Int))) (decide (0 ≤ can) && decide (can < (ks.length : Int))) with hP | ⟨hP, hQ⟩ | ⟨hP, hQ⟩
  · skip
    refine EV.regionG tabOK ?_ -- region 1
    simp -implicitDefEqProofs +contextual [hP]
    refine callG_fun (walk37 res ks.length) ?_ ?_
    · simp
    simp -implicitDefEqProofs +contextual [hP]
    refine EV.condT ?_
    simp -implicitDefEqProofs
    refine EV.seq ?_
    refine EV.regionG tabOK ?_ -- region 2
    simp -implicitDefEqProofs
    refine EV.ret ?_
    simp only [thenK_ret, blockK_ret, scopeK_ret, bodyK_ret]
    refine Fin.pure0 ?_
    first | (simp [coroB, *]; done) | (simp_all [coroB]; done)
  · skip
    refine EV.regionG tabOK ?_ -- region 1
    simp -implicitDefEqProofs +contextual [hP, hQ]
    refine callG_fun (walk37 res ks.length) ?_ ?_
    · simp
    simp -implicitDefEqProofs +contextual [hP, hQ]
    refine callG_fun (walk37 can ks.length) ?_ ?_
    · simp
    simp -implicitDefEqProofs +contextual [hP, hQ]
    refine EV.condT ?_
    simp -implicitDefEqProofs
    refine EV.seq ?_
    refine EV.regionG tabOK ?_ -- region 2
    simp -implicitDefEqProofs
    refine EV.ret ?_
    simp only [thenK_ret, blockK_ret, scopeK_ret, bodyK_ret]
    refine Fin.pure0 ?_
    first | (simp [coroB, *]; done) | (simp_all [coroB]; done)
  · skip
    obtain ⟨h0c, hcl⟩ : 0 ≤ can ∧ can < (ks.length : Int) := by simpa using hQ
    have hlt : can.toNat < ks.length := by omega
    have he : ks[can.toNat]? = some (ks[can.toNat]) := List.getElem?_eq_getElem hlt
    refine EV.regionG tabOK ?_ -- region 1
    simp -implicitDefEqProofs +contextual [hP, hQ, h0c, hcl, hlt, he]
    refine callG_fun (walk37 res ks.length) ?_ ?_
    · simp
    simp -implicitDefEqProofs +contextual [hP, hQ, h0c, hcl, hlt, he]
    refine callG_fun (walk37 can ks.length) ?_ ?_
    · simp
    simp -implicitDefEqProofs +contextual [hP, hQ, h0c, hcl, hlt, he]
    refine EV.condT ?_
    simp -implicitDefEqProofs
    refine condT_intro (fun h1 => ?_) (fun h1 => ?_)
    · try simp at h1
      refine EV.seq ?_
      refine EV.regionG tabOK ?_ -- region 2
      simp -implicitDefEqProofs
      refine EV.ret ?_
      simp only [thenK_ret, blockK_ret, scopeK_ret, bodyK_ret]
      refine Fin.pure0 ?_
      first | (simp [coroB, *]; done) | (simp_all [coroB]; done)
    · try simp at h1
      refine EV.skip ?_
      simp only [thenK_normal, blockK_normal, scopeK_normal]
      refine EV.seq ?_
      rcases cases3 (decide (3 ≤ words)) (decide (words ≤ 1048576)) with hW | ⟨hW, hX⟩ | ⟨hW, hX⟩
      · skip
        refine EV.regionG tabOK ?_ -- region 3
        simp -implicitDefEqProofs +contextual [hW]
        refine EV.ret ?_
        simp only [thenK_ret, blockK_ret, scopeK_ret, bodyK_ret]
        refine Fin.pure0 ?_
        first | (simp [coroB, *]; done) | (simp_all [coroB]; done)
      · skip
        refine EV.regionG tabOK ?_ -- region 3
        simp -implicitDefEqProofs +contextual [hW, hX]
        refine EV.ret ?_
        simp only [thenK_ret, blockK_ret, scopeK_ret, bodyK_ret]
        refine Fin.pure0 ?_
        first | (simp [coroB, *]; done) | (simp_all [coroB]; done)
      · skip
        have hW9 : 3 ≤ words := by simpa using hW
        have hX9 : words ≤ 1048576 := by simpa using hX
        have hw1 : IntKind.i64.wrap (words - 3) = words - 3 := wrap_in _ (by omega) (by omega)
        have hw2 : IntKind.i64.wrap (words - 3 + 1) = words - 3 + 1 := wrap_in _ (by omega) (by omega)
        refine EV.regionG tabOK ?_ -- region 3
        simp -implicitDefEqProofs +contextual [hW, hX, hw1, hw2]
        refine callG_fun (walk37 args (words - 3 + 1)) ?_ ?_
        · simp
        simp -implicitDefEqProofs +contextual [hW, hX, hw1, hw2]
        refine EV.ret ?_
        simp only [thenK_ret, blockK_ret, scopeK_ret, bodyK_ret]
        refine Fin.pure0 ?_
        first | (simp [coroB, *]; done) | (simp_all [coroB]; done)

def coroD (ks : List Int) (c : CoD) : Bool := coroB ks c.res c.can c.words c.args
def funC (f : List InsD) : List V := [.ro 5 (f.map insC)]
noncomputable def validB (funs : List (List InsD)) (cos : List CoD) : Bool :=
  decide (funs.length ≤ 65536) && decide (cos.length ≤ 65536) && cos.all (coroD (kindsL funs.length cos)) && (List.range funs.length).all fun j => rightB cos.length (kindsL funs.length cos) ((kindsL funs.length cos).getD j 0) (funs.getD j [])
theorem takeC {p : CoD → Bool} {l : List CoD} {i : Nat} (h : i < l.length) (hp : p l[i] = true) (hn : ∀ x ∈ l.take i, p x = true) : ∀ x ∈ l.take (i + 1), p x = true := by
  intro x hx
  rw [← List.take_append_getElem h] at hx
  rcases List.mem_append.1 hx with h1 | h1
  · exact hn x h1
  · rw [List.mem_singleton.1 h1]; exact hp
theorem walk21 (funs : List (List InsD)) (cos : List CoD) (hll : ∀ f ∈ funs, ∀ x ∈ f, x.l.length ≤ 1000000) : QC prog 21 [.agg [.ro 1 (funs.map funC), .ro 5 (cos.map coV)]] [] (.b (validB funs cos)) [] := by
  refine QC.of_body tabOK func21 rfl (by kernel_rfl) ?_
  simp only [f21]
  refine EV.seq ?_
  refine EV.regionG tabOK ?_ -- region 0
  simp -implicitDefEqProofs
  refine EV.seq ?_
  refine EV.seq ?_
  refine EV.regionG tabOK ?_ -- region 1
  simp -implicitDefEqProofs +contextual
  refine EV.condT ?_
  simp -implicitDefEqProofs
  refine condT_intro (fun h1 => ?_) (fun h1 => ?_)
  · try simp at h1
    refine EV.seq ?_
    have hb : validB funs cos = false := by
      have h9 : ¬ (funs.length ≤ 65536 ∧ cos.length ≤ 65536) := by (try simp at h1); omega
      unfold validB
      rw [Bool.eq_false_iff]
      intro h
      simp only [Bool.and_eq_true, decide_eq_true_eq] at h
      exact h9 h.1.1
    refine EV.regionG tabOK ?_ -- region 2
    simp -implicitDefEqProofs
    refine EV.ret ?_
    simp only [thenK_ret, blockK_ret, scopeK_ret, bodyK_ret]
    refine Fin.pure0 ?_
    simp [hb]
  · try simp at h1
    refine EV.skip ?_
    simp only [thenK_normal, blockK_normal, scopeK_normal]
    refine EV.seq ?_
    have hs : funs.length ≤ 65536 ∧ cos.length ≤ 65536 := by (try simp at h1); omega
    obtain ⟨hs1, hs2⟩ := hs
    have hKl : (kindsL funs.length cos).length = funs.length := (foldLen _ _ (fun es c => markL_len es _ _)).trans kinds1_len
    refine EV.regionG tabOK ?_ -- region 3
    simp -implicitDefEqProofs
    refine callG_fun (walk19 (funs.map funC) cos (by simp; omega) (by omega)) ?_ ?_
    · simp
    simp -implicitDefEqProofs
    refine EV.seq ?_
    refine EV.seq ?_
    refine EV.regionG tabOK ?_ -- region 4
    simp -implicitDefEqProofs
    refine EV.block ?_
    refine EV.loopB ((fun i => ⟨[.junk, .ptr 0 0 0 0, .junk, .ro 1 ((kindsL funs.length cos).map fun z => [n z]), .junk, .junk, .junk, .junk, .junk, .junk, .junk, .junk, .junk, .junk, .junk, .junk, .junk, .junk, .junk, .junk, .junk, .junk, .ro 5 (cos.map coV), n cos.length, n i.1, .junk, .junk, .junk, .junk, .junk, .junk, .junk, .junk, .junk, .junk, .junk, .junk, .junk, .junk, .junk, .junk, .junk, .junk, .junk, .junk, .junk, .junk, .junk, .junk, .junk, .junk, .junk, .junk, .junk], [.arr 0 2 [[.ro 1 (funs.map funC), .ro 5 (cos.map coV)]]]⟩ : { i : Nat // i ≤ cos.length ∧ ∀ c ∈ cos.take i, coroD (kindsL funs.length cos) c = true } → St)) (fun i => cos.length - i.1) (⟨0, by simp⟩) ?_ ?_
    · skip
      simp
      refine Sub.cutE 1 [false, true, false, true, false, false, false, false, false, false, false, false, false, false, false, false, false, false, false, false, false, false, true, true, true, false, false, false, false, false, false, false, false, false, false, false, false, false, false, false, false, false, false, false, false, false, false, false, false, false, false, false, false, false] (by simp) ?_ ?_ <;> simp [List.range_succ, toIdx_range, passed, keepT, *]
    · skip
      rintro ⟨i, hi, hp⟩
      simp only
      refine EV.seq ?_
      refine EV.regionG tabOK ?_ -- region 5
      simp -implicitDefEqProofs
      refine EV.seq ?_
      refine EV.condT ?_
      simp -implicitDefEqProofs
      refine condT_intro (fun h2 => ?_) (fun h2 => ?_)
      · try simp at h2
        refine EV.skip ?_
        simp only [thenK_normal, blockK_normal, scopeK_normal]
        refine EV.seq ?_
        refine EV.block ?_
        refine EV.seq ?_
        have hiC : i < cos.length := by first | assumption | omega
        refine EV.regionG tabOK ?_ -- region 6
        simp -implicitDefEqProofs [hiC, coV]
        refine EV.seq ?_
        refine EV.regionG tabOK ?_ -- region 7
        simp -implicitDefEqProofs
        refine callG_fun (walk29 (kindsL funs.length cos) cos[i].nm cos[i].res cos[i].can cos[i].words cos[i].args) ?_ ?_
        · simp
        simp -implicitDefEqProofs
        refine EV.condT ?_
        simp -implicitDefEqProofs
        refine condT_intro (fun h3 => ?_) (fun h3 => ?_)
        · try simp at h3
          refine EV.seq ?_
          have hb : validB funs cos = false := by
            have h9 : cos.all (coroD (kindsL funs.length cos)) = false := by
              rw [List.all_eq_false]; exact ⟨cos[i], List.getElem_mem hiC, by simp [coroD, h3]⟩
            simp [validB, h9]
          refine EV.regionG tabOK ?_ -- region 8
          simp -implicitDefEqProofs
          refine EV.ret ?_
          simp only [thenK_ret, blockK_ret, scopeK_ret, bodyK_ret]
          refine Fin.pure0 ?_
          simp [hb]
        · try simp at h3
          refine EV.skip ?_
          simp only [thenK_normal, blockK_normal, scopeK_normal]
          refine EV.regionG tabOK ?_ -- region 9
          simp -implicitDefEqProofs
          have hw : IntKind.i64.wrap ((i : Int) + 1) = (i : Int) + 1 := wrap_in _ (by omega) (by omega)
          refine ⟨⟨i + 1, by omega, takeC hiC (by first | exact h3 | simpa [coroD] using h3) hp⟩, by simp; omega, ?_⟩
          refine Sub.cutE 1 [false, true, false, true, false, false, false, false, false, false, false, false, false, false, false, false, false, false, false, false, false, false, true, true, true, false, false, false, false, false, false, false, false, false, false, false, false, false, false, false, false, false, false, false, false, false, false, false, false, false, false, false, false, false] (by simp) ?_ ?_ <;> simp [List.range_succ, toIdx_range, passed, keepT, *]
      · try simp at h2
        refine EV.exit ?_
        simp -implicitDefEqProofs
        refine EV.seq ?_
        refine EV.seq ?_
        have hT : cos.take i = cos := List.take_of_length_le (by omega)
        rw [hT] at hp
        refine EV.regionG tabOK ?_ -- region 10
        simp -implicitDefEqProofs
        refine EV.block ?_
        refine EV.loopB ((fun i => ⟨[.junk, .ptr 0 0 0 0, .junk, .ro 1 ((kindsL funs.length cos).map fun z => [n z]), .junk, .junk, .junk, .junk, .junk, .junk, .junk, .junk, .junk, .junk, .junk, .junk, .junk, .junk, .junk, .junk, .junk, .junk, .junk, .junk, .junk, .junk, .junk, .junk, .junk, .junk, .junk, .junk, .junk, .junk, .ro 1 (funs.map funC), n funs.length, n i.1, .junk, .junk, .junk, .junk, .junk, .junk, .junk, .junk, .junk, .junk, .junk, .junk, .junk, .junk, .junk, .junk, .junk], [.arr 0 2 [[.ro 1 (funs.map funC), .ro 5 (cos.map coV)]]]⟩ : { i : Nat // i ≤ funs.length ∧ ∀ j, j < i → rightB cos.length (kindsL funs.length cos) ((kindsL funs.length cos).getD j 0) (funs.getD j []) = true } → St)) (fun i => funs.length - i.1) (⟨0, by simp, by simp⟩) ?_ ?_
        · skip
          simp
          refine Sub.cutE 1 [false, true, false, true, false, false, false, false, false, false, false, false, false, false, false, false, false, false, false, false, false, false, false, false, false, false, false, false, false, false, false, false, false, false, true, true, true, false, false, false, false, false, false, false, false, false, false, false, false, false, false, false, false, false] (by simp) ?_ ?_ <;> simp [List.range_succ, toIdx_range, passed, keepT, *]
        · skip
          rintro ⟨i, hi, hq⟩
          simp only
          refine EV.seq ?_
          refine EV.regionG tabOK ?_ -- region 11
          simp -implicitDefEqProofs
          refine EV.seq ?_
          refine EV.condT ?_
          simp -implicitDefEqProofs
          refine condT_intro (fun h4 => ?_) (fun h4 => ?_)
          · try simp at h4
            refine EV.skip ?_
            simp only [thenK_normal, blockK_normal, scopeK_normal]
            refine EV.seq ?_
            refine EV.block ?_
            refine EV.seq ?_
            have hiF : i < funs.length := by first | assumption | omega
            have hiK : i < (kindsL funs.length cos).length := by omega
            have hll2 := hll _ (List.getElem_mem hiF)
            have hfd : funs.getD i [] = funs[i] := by simp [List.getD, hiF]
            have hkd : (kindsL funs.length cos).getD i 0 = (kindsL funs.length cos)[i] := by simp [List.getD, hiK]
            refine EV.regionG tabOK ?_ -- region 12
            simp -implicitDefEqProofs [hiF, funC]
            refine EV.seq ?_
            refine EV.drawG tabOK mixedOK ?_ -- region 13
            simp -implicitDefEqProofs [hiK, hiF, hKl]
            refine And.intro ?_ ?_
            · first | decide +kernel | (simp -implicitDefEqProofs; decide +kernel)
            try simp -implicitDefEqProofs
            refine EV.seq ?_
            refine EV.regionG tabOK ?_ -- region 14
            simp -implicitDefEqProofs
            refine callG_own [1] rfl (walk30 (funs.map funC) (cos.map coV) (kindsL funs.length cos) (kindsL funs.length cos)[i] funs[i] hll2) ?_ ?_ ?_ ?_ ?_ ?_
            · simp
            · simp [chkO]
            · simp
            · simp
            · simp [chkO]
            simp -implicitDefEqProofs [keys, callUpd, chkO, List.range_succ]
            refine EV.condT ?_
            simp -implicitDefEqProofs
            refine condT_intro (fun h5 => ?_) (fun h5 => ?_)
            · try simp at h5
              refine EV.seq ?_
              have hb : validB funs cos = false := by
                have h9 : (List.range funs.length).all (fun j => rightB cos.length (kindsL funs.length cos) ((kindsL funs.length cos).getD j 0) (funs.getD j [])) = false := by
                  rw [List.all_eq_false]; exact ⟨i, List.mem_range.2 hiF, by rw [hkd, hfd, h5]; simp⟩
                simp only [validB, h9, Bool.and_false]
              refine EV.regionG tabOK ?_ -- region 15
              simp -implicitDefEqProofs
              refine EV.ret ?_
              simp only [thenK_ret, blockK_ret, scopeK_ret, bodyK_ret]
              refine Fin.pure0 ?_
              simp [hb]
            · try simp at h5
              refine EV.skip ?_
              simp only [thenK_normal, blockK_normal, scopeK_normal]
              refine EV.regionG tabOK ?_ -- region 16
              simp -implicitDefEqProofs
              have hw : IntKind.i64.wrap ((i : Int) + 1) = (i : Int) + 1 := wrap_in _ (by omega) (by omega)
              refine ⟨⟨i + 1, by omega, fun j hj => ?_⟩, by simp; omega, ?_⟩
              · rcases Nat.lt_or_ge j i with h9 | h9
                · exact hq j h9
                · have : j = i := by omega
                  subst this
                  rw [hkd, hfd]; first | assumption | simpa using h4
              refine Sub.cutE 1 [false, true, false, true, false, false, false, false, false, false, false, false, false, false, false, false, false, false, false, false, false, false, false, false, false, false, false, false, false, false, false, false, false, false, true, true, true, false, false, false, false, false, false, false, false, false, false, false, false, false, false, false, false, false] (by simp) ?_ ?_ <;> simp [List.range_succ, toIdx_range, passed, keepT, *]
          · try simp at h4
            refine EV.exit ?_
            simp -implicitDefEqProofs
            refine EV.seq ?_
            have hb : validB funs cos = true := by
              have h8 : cos.all (coroD (kindsL funs.length cos)) = true := List.all_eq_true.2 hp
              have h9 : (List.range funs.length).all (fun j => rightB cos.length (kindsL funs.length cos) ((kindsL funs.length cos).getD j 0) (funs.getD j [])) = true := List.all_eq_true.2 fun j hj => hq j (by have := List.mem_range.1 hj; omega)
              simp only [validB, h8, h9, hs1, hs2, decide_true, Bool.and_self]
            refine EV.regionG tabOK ?_ -- region 17
            simp -implicitDefEqProofs
            refine EV.ret ?_
            simp only [thenK_ret, blockK_ret, scopeK_ret, bodyK_ret]
            refine Fin.pure0 ?_
            simp [hb]

end Go.Proofs.Tryd
end
