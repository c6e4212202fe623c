/- Joined: A0, A1, A2, A3, A4, A5, A6, A7, A8, A9, A10, A11, A12, A13 -/
import Derived.Calls
import Derived.Orders
import Derived.WalkKit
import Derived.Maps.AppendAt
import Derived.Test.YtphjldhdnmoolaaProg
import Derived.KernelRfl
import Derived.Laws.Tables
import Derived.Laws.StructEq
import Derived.Laws.Strings
import Derived.Laws.CopyRow
set_option linter.unusedVariables false
set_option linter.unusedSimpArgs false
/- Words: values without addresses, and how a world's values stand for them. -/
namespace Go.Proofs.Ytphjldhdnmoolaa.A
open Go
/-! ### values without addresses -/
inductive SK where
  | sh
  | full
  | row (k : Nat) (E : TypeId)
  deriving DecidableEq
inductive IV where
  | v (x : Value)
  | agg (l : List IV)
  | tup (l : List IV)
  | sl (k : SK) (n : Nat) (l : List IV)
  | ref (l : List IV)
  | ptr (o off : Nat)
  | map (o : Nat)
  | vec (o n c : Nat)
  | iface (T : TypeId) (x : IV)
  | any
structure Row where
  b : Nat
  E : TypeId
  n : Nat
  c : Nat
structure K where
  objs : List Nat
  rows : List Row
  rs : Nat → Nat → Prop
def SK.ok (κ : K) (n : Nat) (A : Option Addr) (c : Nat) : SK → Prop
  | .sh => True
  | .full => c = n
  | .row k E => ∃ r, κ.rows[k]? = some r ∧ r.E = E ∧ n ≤ r.n ∧ (n = r.n → A = some ⟨r.b, 0, none⟩ ∧ c = r.c)
mutual
def Rel (κ : K) (w : World) : IV → Value → Prop
  | .v x, y => y = x
  | .agg l, y => ∃ vs : Array Value, y = .agg vs ∧ RelL κ w l vs.toList
  | .tup l, y => ∃ vs : Array Value, y = .tuple vs ∧ RelL κ w l vs.toList
  | .sl k n l, y => ∃ A c, y = .slice A n c ∧ n ≤ c ∧ k.ok κ n A c ∧ (l = [] ∨ ∃ b off, A = some ⟨b, off, none⟩ ∧ RelC κ w b off l)
  | .ref l, y => ∃ b off, y = .pointer (some ⟨b, off, none⟩) ∧ RelC κ w b off l
  | .ptr o off, y => ∃ b, κ.objs[o]? = some b ∧ y = .pointer (some ⟨b, off, none⟩)
  | .map o, y => ∃ b, κ.objs[o]? = some b ∧ y = .map (some b)
  | .vec o n c, y => n ≤ c ∧ ((c = 0 ∧ ∃ A, y = .slice A 0 0) ∨ ∃ b, κ.objs[o]? = some b ∧ y = .slice (some ⟨b, 0, none⟩) n c)
  | .iface T x, y => ∃ u, y = .iface T u ∧ Rel κ w x u
  | .any, _ => True
def RelL (κ : K) (w : World) : List IV → List Value → Prop
  | [], vs => vs = []
  | i :: l, vs => ∃ v vs', vs = v :: vs' ∧ Rel κ w i v ∧ RelL κ w l vs'
def RelC (κ : K) (w : World) (b : Nat) : Nat → List IV → Prop
  | _, [] => True
  | off, i :: l => κ.rs b off ∧ (∃ v, w.cell? ⟨b, off, none⟩ = some v ∧ Rel κ w i v) ∧ RelC κ w b (off + 1) l
end
/-- What may come of a state: what is read stays, objects stay, rows grow. -/
structure Le (κ : K) (w : World) (κ' : K) (w' : World) : Prop where
  objs : ∀ (o b : Nat), κ.objs[o]? = some b → κ'.objs[o]? = some b
  rows : ∀ (k : Nat) r, κ.rows[k]? = some r → ∃ r', κ'.rows[k]? = some r' ∧ r'.E = r.E ∧ (r' = r ∨ r.n < r'.n)
  rs : ∀ b j, κ.rs b j → κ'.rs b j ∧ w'.cell? ⟨b, j, none⟩ = w.cell? ⟨b, j, none⟩
theorem Le.refl (κ : K) (w : World) : Le κ w κ w := ⟨fun _ _ h => h, fun _ r h => ⟨r, h, rfl, .inl rfl⟩, fun _ _ h => ⟨h, rfl⟩⟩
theorem Le.trans {κ κ1 κ2 : K} {w w1 w2 : World} (h : Le κ w κ1 w1) (g : Le κ1 w1 κ2 w2) : Le κ w κ2 w2 :=
  ⟨fun o b x => g.objs o b (h.objs o b x), fun k r x => by
    obtain ⟨r1, h1, e1, q1⟩ := h.rows k r x
    obtain ⟨r2, h2, e2, q2⟩ := g.rows k r1 h1
    refine ⟨r2, h2, e2.trans e1, ?_⟩
    rcases q1 with rfl | q1 <;> rcases q2 with rfl | q2
    · exact .inl rfl
    · exact .inr q2
    · exact .inr q1
    · exact .inr (Nat.lt_trans q1 q2),
   fun b j x => ⟨(g.rs b j (h.rs b j x).1).1, (g.rs b j (h.rs b j x).1).2.trans (h.rs b j x).2⟩⟩
theorem SK.ok_mono {κ κ' : K} {w w' : World} (h : Le κ w κ' w') {k : SK} {n c : Nat} {A : Option Addr} (hk : k.ok κ n A c) : k.ok κ' n A c := by
  cases k with
  | sh => exact hk
  | full => exact hk
  | row k E =>
    obtain ⟨r, h1, h2, h3, h4⟩ := hk
    obtain ⟨r', g1, g2, g3⟩ := h.rows k r h1
    refine ⟨r', g1, g2.trans h2, ?_, ?_⟩
    · rcases g3 with rfl | g3 <;> omega
    · intro e
      rcases g3 with rfl | g3
      · exact h4 e
      · omega
mutual
theorem Rel.mono {κ κ' : K} {w w' : World} (h : Le κ w κ' w') : ∀ (i : IV) (y : Value), Rel κ w i y → Rel κ' w' i y
  | .v x, y, hr => by simp only [Rel] at *; exact hr
  | .agg l, y, hr => by simp only [Rel] at *; obtain ⟨vs, e, hl⟩ := hr; exact ⟨vs, e, RelL.mono h l _ hl⟩
  | .tup l, y, hr => by simp only [Rel] at *; obtain ⟨vs, e, hl⟩ := hr; exact ⟨vs, e, RelL.mono h l _ hl⟩
  | .sl k n l, y, hr => by
    simp only [Rel] at *
    obtain ⟨A, c, e, hn, hk, hl⟩ := hr
    refine ⟨A, c, e, hn, SK.ok_mono h hk, ?_⟩
    rcases hl with hl | ⟨b, off, ha, hl⟩
    · exact .inl hl
    · exact .inr ⟨b, off, ha, RelC.mono h l b off hl⟩
  | .ref l, y, hr => by simp only [Rel] at *; obtain ⟨b, off, e, hl⟩ := hr; exact ⟨b, off, e, RelC.mono h l b off hl⟩
  | .ptr o off, y, hr => by simp only [Rel] at *; obtain ⟨b, hb, e⟩ := hr; exact ⟨b, h.objs o b hb, e⟩
  | .map o, y, hr => by simp only [Rel] at *; obtain ⟨b, hb, e⟩ := hr; exact ⟨b, h.objs o b hb, e⟩
  | .vec o n c, y, hr => by
    simp only [Rel] at *
    obtain ⟨hn, hr⟩ := hr
    rcases hr with hr | ⟨b, hb, e⟩
    · exact ⟨hn, .inl hr⟩
    · exact ⟨hn, .inr ⟨b, h.objs o b hb, e⟩⟩
  | .iface T x, y, hr => by simp only [Rel] at *; obtain ⟨u, e, hu⟩ := hr; exact ⟨u, e, Rel.mono h x u hu⟩
  | .any, y, hr => by simp only [Rel]
theorem RelL.mono {κ κ' : K} {w w' : World} (h : Le κ w κ' w') : ∀ (l : List IV) (vs : List Value), RelL κ w l vs → RelL κ' w' l vs
  | [], vs, hr => by simp only [RelL] at *; exact hr
  | i :: l, vs, hr => by
    simp only [RelL] at *
    obtain ⟨v, vs', e, hi, hl⟩ := hr
    exact ⟨v, vs', e, Rel.mono h i v hi, RelL.mono h l vs' hl⟩
theorem RelC.mono {κ κ' : K} {w w' : World} (h : Le κ w κ' w') : ∀ (l : List IV) (b off : Nat), RelC κ w b off l → RelC κ' w' b off l
  | [], b, off, hr => by simp only [RelC]
  | i :: l, b, off, hr => by
    simp only [RelC] at *
    obtain ⟨h1, ⟨v, hv, hi⟩, hl⟩ := hr
    exact ⟨(h.rs b off h1).1, ⟨v, (h.rs b off h1).2.trans hv, Rel.mono h i v hi⟩, RelC.mono h l b (off + 1) hl⟩
end
/-! ### lists of values, runs of cells -/
theorem RelL.length {κ : K} {w : World} : ∀ {l : List IV} {vs : List Value}, RelL κ w l vs → vs.length = l.length
  | [], vs, h => by simp only [RelL] at h; simp [h]
  | i :: l, vs, h => by
    simp only [RelL] at h
    obtain ⟨v, vs', rfl, _, hl⟩ := h
    simp [RelL.length hl]
theorem RelL.get {κ : K} {w : World} : ∀ {l : List IV} {vs : List Value}, RelL κ w l vs → ∀ {j : Nat} {i : IV}, l[j]? = some i → ∃ v, vs[j]? = some v ∧ Rel κ w i v
  | [], vs, h, j, i, e => by simp at e
  | i :: l, vs, h, j, i', e => by
    simp only [RelL] at h
    obtain ⟨v, vs', rfl, hi, hl⟩ := h
    cases j with
    | zero => simp at e; subst e; exact ⟨v, by simp, hi⟩
    | succ j => simp at e; obtain ⟨u, hu, hr⟩ := RelL.get hl e; exact ⟨u, by simpa using hu, hr⟩
theorem RelL.of_get {κ : K} {w : World} : ∀ {l : List IV} {vs : List Value}, vs.length = l.length → (∀ (j : Nat) (i : IV) (v : Value), l[j]? = some i → vs[j]? = some v → Rel κ w i v) → RelL κ w l vs
  | [], vs, h, _ => by simp only [RelL]; simpa using h
  | i :: l, vs, h, g => by
    cases vs with
    | nil => simp at h
    | cons v vs =>
      simp only [RelL]
      exact ⟨v, vs, rfl, g 0 i v (by simp) (by simp), RelL.of_get (by simpa using h) (fun j i' v' e e' => g (j + 1) i' v' (by simpa using e) (by simpa using e'))⟩
theorem RelL.append {κ : K} {w : World} : ∀ {l l' : List IV} {vs vs' : List Value}, RelL κ w l vs → RelL κ w l' vs' → RelL κ w (l ++ l') (vs ++ vs')
  | [], l', vs, vs', h, g => by simp only [RelL] at h; subst h; simpa using g
  | i :: l, l', vs, vs', h, g => by
    simp only [RelL] at h
    obtain ⟨v, vs1, rfl, hi, hl⟩ := h
    simp only [List.cons_append, RelL]
    exact ⟨v, vs1 ++ vs', rfl, hi, RelL.append hl g⟩
theorem RelL.take {κ : K} {w : World} {l : List IV} {vs : List Value} (h : RelL κ w l vs) (n : Nat) : RelL κ w (l.take n) (vs.take n) :=
  RelL.of_get (by simp [RelL.length h]) (fun j i v e e' => by
    rw [List.getElem?_take] at e e'
    split at e
    · rename_i hj; rw [if_pos hj] at e'
      obtain ⟨u, hu, hr⟩ := h.get e
      rw [hu] at e'; cases e'; exact hr
    · cases e)
theorem RelL.drop {κ : K} {w : World} {l : List IV} {vs : List Value} (h : RelL κ w l vs) (n : Nat) : RelL κ w (l.drop n) (vs.drop n) :=
  RelL.of_get (by simp [RelL.length h]) (fun j i v e e' => by
    rw [List.getElem?_drop] at e e'
    obtain ⟨u, hu, hr⟩ := h.get e
    rw [hu] at e'; cases e'; exact hr)
theorem RelL.set {κ : K} {w : World} {l : List IV} {vs : List Value} (h : RelL κ w l vs) (n : Nat) {i : IV} {v : Value} (hi : Rel κ w i v) : RelL κ w (l.set n i) (vs.set n v) :=
  RelL.of_get (by simp [RelL.length h]) (fun j i' v' e e' => by
    rw [List.getElem?_set] at e e'
    by_cases hj : n = j
    · subst hj
      rw [if_pos rfl] at e e'
      have hlen := RelL.length h
      split at e
      · rename_i hlt; rw [if_pos (by omega)] at e'; cases e; cases e'; exact hi
      · cases e
    · rw [if_neg hj] at e e'
      obtain ⟨u, hu, hr⟩ := h.get e
      rw [hu] at e'; cases e'; exact hr)
theorem RelC.get {κ : K} {w : World} {b : Nat} : ∀ {l : List IV} {off : Nat}, RelC κ w b off l → ∀ {j : Nat} {i : IV}, l[j]? = some i → κ.rs b (off + j) ∧ ∃ v, w.cell? ⟨b, off + j, none⟩ = some v ∧ Rel κ w i v
  | [], off, h, j, i, e => by simp at e
  | i :: l, off, h, j, i', e => by
    simp only [RelC] at h
    obtain ⟨h1, h2, hl⟩ := h
    cases j with
    | zero => simp at e; subst e; exact ⟨h1, h2⟩
    | succ j => simp at e; have := RelC.get hl e; rw [show off + (j + 1) = off + 1 + j by omega]; exact this
theorem RelC.of_get {κ : K} {w : World} {b : Nat} : ∀ {l : List IV} {off : Nat}, (∀ (j : Nat) (i : IV), l[j]? = some i → κ.rs b (off + j) ∧ ∃ v, w.cell? ⟨b, off + j, none⟩ = some v ∧ Rel κ w i v) → RelC κ w b off l
  | [], off, _ => by simp only [RelC]
  | i :: l, off, g => by
    simp only [RelC]
    refine ⟨(g 0 i (by simp)).1, (g 0 i (by simp)).2, RelC.of_get (fun j i' e => ?_)⟩
    rw [show off + 1 + j = off + (j + 1) by omega]
    exact g (j + 1) i' (by simpa using e)
theorem RelC.drop {κ : K} {w : World} {b off : Nat} {l : List IV} (h : RelC κ w b off l) (n : Nat) : RelC κ w b (off + n) (l.drop n) :=
  RelC.of_get (fun j i e => by
    rw [List.getElem?_drop] at e
    have := h.get e
    rwa [← Nat.add_assoc] at this)
theorem RelC.vals {κ : K} {w : World} {b : Nat} : ∀ {l : List IV} {off : Nat}, RelC κ w b off l → ∃ vs : List Value, RelL κ w l vs ∧ ∀ (j : Nat) (v : Value), vs[j]? = some v → w.cell? ⟨b, off + j, none⟩ = some v
  | [], off, _ => ⟨[], by simp only [RelL], by simp⟩
  | i :: l, off, h => by
    simp only [RelC] at h
    obtain ⟨_, ⟨v, hv, hi⟩, hl⟩ := h
    obtain ⟨vs, h1, h2⟩ := RelC.vals hl
    refine ⟨v :: vs, ?_, fun j u e => ?_⟩
    · simp only [RelL]; exact ⟨v, vs, rfl, hi, h1⟩
    · cases j with
      | zero => simp at e; subst e; exact hv
      | succ j => simp at e; have := h2 j u e; rwa [show off + (j + 1) = off + 1 + j by omega]
end Go.Proofs.Ytphjldhdnmoolaa.A
/- Words: states of the abstract machine, what a step keeps, triples, calls. -/
namespace Go.Proofs.Ytphjldhdnmoolaa.A
open Go
noncomputable abbrev P : Program := Try.prog
inductive IObj where
  | cells (l : List IV)
  | map (es : Array MapEntry) (clock : Nat)
structure Mem where
  objs : List IObj
  rows : List Nat
structure St where
  t : Nat → IV
  m : Mem
def ObjRel (κ : K) (w : World) (b : Nat) : IObj → Prop
  | .cells l => ∃ arr T, w.heap[b]? = some (.cells arr T (0, 0)) ∧ RelL κ w l arr.toList
  | .map es c => w.heap[b]? = some (.map es c)
structure RowOK (κ : K) (w : World) (r : Row) : Prop where
  no : r.b ∉ κ.objs
  le : r.n ≤ r.c
  max : r.c ≤ maxLen
  blk : ∃ cur i, w.heap[r.b]? = some (.cells cur r.E (0, 0)) ∧ P.info? r.E = some i ∧ cur.size = r.c * i.size ∧ ∀ j, r.n * i.size ≤ j → ¬ κ.rs r.b j
structure Inv (wr : Nat → Prop) (κ : K) (w : World) (m : Mem) : Prop where
  len : κ.objs.length = m.objs.length
  nodup : ∀ (i j b : Nat), κ.objs[i]? = some b → κ.objs[j]? = some b → i = j
  obj : ∀ (o b : Nat) (x : IObj), κ.objs[o]? = some b → m.objs[o]? = some x → ObjRel κ w b x
  rows : m.rows = κ.rows.map Row.n
  row : ∀ (k : Nat) r, κ.rows[k]? = some r → RowOK κ w r
  rowne : ∀ (i j : Nat) r r', κ.rows[i]? = some r → κ.rows[j]? = some r' → r.b = r'.b → i = j
  rs : ∀ b j, κ.rs b j → b ∉ κ.objs ∧ ∃ v, w.cell? ⟨b, j, none⟩ = some v
  wobj : ∀ b, b ∈ κ.objs → wr b
  wrow : ∀ (k : Nat) r, κ.rows[k]? = some r → wr r.b
  wnew : ∀ b, w.heap.size ≤ b → wr b
structure StRel (n : Nat) (wr : Nat → Prop) (κ : K) (st : St) (a : Act) (w : World) : Prop where
  inv : Inv wr κ w st.m
  defers : a.defers = []
  size : a.tmps.size = n
  t : ∀ i, Rel κ w (st.t i) (a.tmps.getD i undef)
structure Ev (wr : Nat → Prop) (κ : K) (w : World) (κ' : K) (w' : World) : Prop where
  os : w'.os = w.os
  tape : w'.tape = w.tape
  output : w'.output = w.output
  size : w.heap.size ≤ w'.heap.size
  keep : ∀ b, b < w.heap.size → ¬ wr b → w'.heap[b]? = w.heap[b]? ∧ ∀ j, κ'.rs b j → κ.rs b j
  le : Le κ w κ' w'
theorem Ev.refl (wr : Nat → Prop) (κ : K) (w : World) : Ev wr κ w κ w := ⟨rfl, rfl, rfl, Nat.le_refl _, fun _ _ _ => ⟨rfl, fun _ h => h⟩, Le.refl κ w⟩
theorem Ev.trans {wr : Nat → Prop} {κ κ1 κ2 : K} {w w1 w2 : World} (h : Ev wr κ w κ1 w1) (g : Ev wr κ1 w1 κ2 w2) : Ev wr κ w κ2 w2 :=
  ⟨g.os.trans h.os, g.tape.trans h.tape, g.output.trans h.output, Nat.le_trans h.size g.size, fun b hb hn =>
    ⟨(g.keep b (Nat.lt_of_lt_of_le hb h.size) hn).1.trans (h.keep b hb hn).1, fun j x => (h.keep b hb hn).2 j ((g.keep b (Nat.lt_of_lt_of_le hb h.size) hn).2 j x)⟩, h.le.trans g.le⟩
theorem Ev.weaken {wr wr' : Nat → Prop} {κ κ' : K} {w w' : World} (h : Ev wr κ w κ' w') (g : ∀ b, wr b → wr' b) : Ev wr' κ w κ' w' :=
  ⟨h.os, h.tape, h.output, h.size, fun b hb hn => h.keep b hb (fun x => hn (g b x)), h.le⟩
theorem heap_old (w : World) (o : Obj) (b : Nat) (h : b < w.heap.size) : (w.alloc o).heap[b]? = w.heap[b]? := by
  show (w.heap.push o)[b]? = w.heap[b]?
  rw [Array.getElem?_push, if_neg (Nat.ne_of_lt h)]
/-! ### puts -/
def upd (f : Nat → IV) (i : Nat) (x : IV) : Nat → IV := fun j => if j = i then x else f j
theorem upd_apply (f : Nat → IV) (i : Nat) (x : IV) (j : Nat) : upd f i x j = if j = i then x else f j := rfl
def St.put (st : St) (d : Option Tmp) (x : IV) : St := match d with | some i => ⟨upd st.t i x, st.m⟩ | none => st
def dstOK (n : Nat) (d : Option Tmp) : Bool := match d with | some i => decide (i < n) | none => true
theorem put_t {n : Nat} {κ : K} {w : World} {t : Nat → IV} {a : Act} (hs : a.tmps.size = n) (h : ∀ i, Rel κ w (t i) (a.tmps.getD i undef)) {i : Nat} (hi : i < n) {x : IV} {v : Value} (hx : Rel κ w x v) :
    ∀ j, Rel κ w (upd t i x j) ((a.put (some i) v).tmps.getD j undef) := by
  intro j
  show Rel κ w (if j = i then x else t j) ((a.tmps.setIfInBounds i v).getD j undef)
  rw [Array.getD_eq_getD_getElem?]
  by_cases e : j = i
  · subst e
    rw [if_pos rfl, Array.getElem?_setIfInBounds_self_of_lt (by omega)]
    exact hx
  · rw [if_neg e, Array.getElem?_setIfInBounds_ne (fun q => e q.symm), ← Array.getD_eq_getD_getElem?]
    exact h j
theorem StRel.put {n : Nat} {wr : Nat → Prop} {κ : K} {st : St} {a : Act} {w : World} (h : StRel n wr κ st a w) {d : Option Tmp} (hd : dstOK n d = true) {x : IV} {v : Value} (hx : Rel κ w x v) : StRel n wr κ (st.put d x) (a.put d v) w := by
  cases d with
  | none => exact h
  | some i =>
    refine ⟨h.inv, h.defers, ?_, put_t h.size h.t (by simpa [dstOK] using hd) hx⟩
    show (a.tmps.setIfInBounds i v).size = n
    rw [Array.size_setIfInBounds]; exact h.size
/-! ### new memory that is read -/
/-- w' is w with more blocks; κ' reads some of these. -/
structure Grow (κ : K) (w : World) (κ' : K) (w' : World) : Prop where
  os : w'.os = w.os
  tape : w'.tape = w.tape
  output : w'.output = w.output
  size : w.heap.size ≤ w'.heap.size
  heap : ∀ b, b < w.heap.size → w'.heap[b]? = w.heap[b]?
  objs : κ'.objs = κ.objs
  rows : κ'.rows = κ.rows
  rs : ∀ b j, κ.rs b j → κ'.rs b j
  old : ∀ b j, b < w.heap.size → κ'.rs b j → κ.rs b j
  new : ∀ b j, κ'.rs b j → w.heap.size ≤ b → ∃ v, w'.cell? ⟨b, j, none⟩ = some v
theorem Inv.rs_lt {wr : Nat → Prop} {κ : K} {w : World} {m : Mem} (h : Inv wr κ w m) {b j : Nat} (hr : κ.rs b j) : b < w.heap.size := by
  obtain ⟨_, v, hv⟩ := h.rs b j hr
  exact World.block_lt_of_cell? w _ hv
theorem ObjRel.lt {κ : K} {w : World} {b : Nat} {x : IObj} (h : ObjRel κ w b x) : b < w.heap.size := by
  cases x with
  | cells l => obtain ⟨arr, T, h, _⟩ := h; exact (Array.getElem?_eq_some_iff.1 h).1
  | map es c => exact (Array.getElem?_eq_some_iff.1 h).1
theorem Inv.obj_lt {wr : Nat → Prop} {κ : K} {w : World} {m : Mem} (h : Inv wr κ w m) {b : Nat} (hb : b ∈ κ.objs) : b < w.heap.size := by
  obtain ⟨o, ho⟩ := List.mem_iff_getElem?.1 hb
  have hl : o < m.objs.length := by rw [← h.len]; exact (List.getElem?_eq_some_iff.1 ho).1
  exact (h.obj o b m.objs[o] ho (List.getElem?_eq_getElem hl)).lt
theorem ObjRel.mono {κ κ' : K} {w w' : World} (h : Le κ w κ' w') {b : Nat} (hb : w'.heap[b]? = w.heap[b]?) {x : IObj} (hx : ObjRel κ w b x) : ObjRel κ' w' b x := by
  cases x with
  | cells l => obtain ⟨arr, T, e, hl⟩ := hx; exact ⟨arr, T, hb.trans e, RelL.mono h l _ hl⟩
  | map es c => exact hb.trans hx
theorem Grow.le {κ κ' : K} {w w' : World} (g : Grow κ w κ' w') (hl : ∀ b j, κ.rs b j → b < w.heap.size) : Le κ w κ' w' :=
  ⟨fun o b h => by rw [g.objs]; exact h, fun k r h => ⟨r, by rw [g.rows]; exact h, rfl, .inl rfl⟩, fun b j h => ⟨g.rs b j h, World.cell?_of_block (w := w) (g.heap b (hl b j h))⟩⟩
theorem Inv.grow {wr : Nat → Prop} {κ κ' : K} {w w' : World} {m : Mem} (h : Inv wr κ w m) (g : Grow κ w κ' w') : Inv wr κ' w' m := by
  have hle := g.le (fun b j => h.rs_lt)
  refine ⟨by rw [g.objs]; exact h.len, by rw [g.objs]; exact h.nodup, ?_, by rw [g.rows]; exact h.rows, ?_, by rw [g.rows]; exact h.rowne, ?_, by rw [g.objs]; exact h.wobj, by rw [g.rows]; exact h.wrow, fun b hb => h.wnew b (Nat.le_trans g.size hb)⟩
  · intro o b x ho hx
    rw [g.objs] at ho
    have hlt := h.obj_lt (List.mem_of_getElem? ho)
    exact (h.obj o b x ho hx).mono hle (g.heap b hlt)
  · intro k r hk
    rw [g.rows] at hk
    have hr := h.row k r hk
    obtain ⟨cur, i, h1, h2, h3, h4⟩ := hr.blk
    have hlt := (Array.getElem?_eq_some_iff.1 h1).1
    exact ⟨by rw [g.objs]; exact hr.no, hr.le, hr.max, cur, i, (g.heap _ hlt).trans h1, h2, h3, fun j hj x => h4 j hj (g.old _ j hlt x)⟩
  · intro b j hr
    by_cases hb : b < w.heap.size
    · obtain ⟨h1, v, hv⟩ := h.rs b j (g.old b j hb hr)
      exact ⟨by rw [g.objs]; exact h1, v, (World.cell?_of_block (w := w) (a := ⟨b, j, none⟩) (g.heap b hb)).trans hv⟩
    · refine ⟨?_, g.new b j hr (Nat.le_of_not_lt hb)⟩
      rw [g.objs]
      exact fun hm => hb (h.obj_lt hm)
theorem Grow.ev {wr : Nat → Prop} {κ κ' : K} {w w' : World} {m : Mem} (g : Grow κ w κ' w') (h : Inv wr κ w m) : Ev wr κ w κ' w' :=
  ⟨g.os, g.tape, g.output, g.size, fun b hb _ => ⟨g.heap b hb, fun j x => g.old b j hb x⟩, g.le (fun b j => h.rs_lt)⟩
theorem StRel.grow {n : Nat} {wr : Nat → Prop} {κ κ' : K} {st : St} {a : Act} {w w' : World} (h : StRel n wr κ st a w) (g : Grow κ w κ' w') : StRel n wr κ' st a w' :=
  ⟨h.inv.grow g, h.defers, h.size, fun i => Rel.mono (g.le (fun b j => h.inv.rs_lt)) _ _ (h.t i)⟩
/-- One new block of cells, all of them read. -/
def K.see (κ : K) (b n : Nat) : K := ⟨κ.objs, κ.rows, fun x j => κ.rs x j ∨ x = b ∧ j < n⟩
theorem grow_alloc {wr : Nat → Prop} {κ : K} {w : World} {m : Mem} (h : Inv wr κ w m) (c : Array Value) (T : TypeId) (n : Nat) (hn : n ≤ c.size) : Grow κ w (κ.see w.heap.size n) (w.alloc (.cells c T)) := by
  refine ⟨rfl, rfl, rfl, by simp, fun b hb => heap_old w _ b hb, rfl, rfl, fun b j x => .inl x, ?_, ?_⟩
  · rintro b j hb (x | ⟨rfl, _⟩)
    · exact x
    · omega
  · rintro b j (x | ⟨rfl, hj⟩) hb
    · have := h.rs_lt x; omega
    · rw [World.cell?_alloc_new]
      exact ⟨c[j]'(by omega), Array.getElem?_eq_getElem (by omega)⟩
theorem grow_drew (κ : K) (w : World) (h : ∀ b j, κ.rs b j → b < w.heap.size) : Grow κ w κ w.drew :=
  ⟨rfl, rfl, rfl, Nat.le_refl _, fun _ _ => rfl, rfl, rfl, fun _ _ x => x, fun _ _ _ x => x, fun b j x hb => by have := h b j x; omega⟩
theorem see_cells {κ : K} {w : World} {l : List IV} {c : Array Value} {T : TypeId} {wr : Nat → Prop} {m : Mem} (hi : Inv wr κ w m) (n : Nat) (hn : l.length ≤ n) (hc : n ≤ c.size) (h : RelL κ w l (c.toList.take l.length)) : RelC (κ.see w.heap.size n) (w.alloc (.cells c T)) w.heap.size 0 l := by
  have hle := (grow_alloc hi c T n hc).le (fun b j => hi.rs_lt)
  refine RelC.of_get (fun j i e => ?_)
  have hj := (List.getElem?_eq_some_iff.1 e).1
  obtain ⟨v, hv, hr⟩ := h.get e
  rw [List.getElem?_take, if_pos hj, Array.getElem?_toList] at hv
  rw [Nat.zero_add]
  exact ⟨.inr ⟨rfl, by omega⟩, v, by rw [World.cell?_alloc_new]; exact hv, Rel.mono hle _ _ hr⟩
/-! ### objects -/
theorem StRel.newObj {n : Nat} {wr : Nat → Prop} {κ : K} {st : St} {a : Act} {w : World} (h : StRel n wr κ st a w) (o : Obj) (x : IObj) (hx : ∀ κ', Le κ w κ' (w.alloc o) → ObjRel κ' (w.alloc o) w.heap.size x) :
    StRel n wr ⟨κ.objs ++ [w.heap.size], κ.rows, κ.rs⟩ ⟨st.t, ⟨st.m.objs ++ [x], st.m.rows⟩⟩ a (w.alloc o) ∧ Ev wr κ w ⟨κ.objs ++ [w.heap.size], κ.rows, κ.rs⟩ (w.alloc o) := by
  have hi := h.inv
  have hle : Le κ w ⟨κ.objs ++ [w.heap.size], κ.rows, κ.rs⟩ (w.alloc o) := by
    refine ⟨fun k b e => ?_, fun k r e => ⟨r, e, rfl, .inl rfl⟩, fun b j e => ⟨e, World.cell?_of_block (w := w) (heap_old w o b (hi.rs_lt e))⟩⟩
    show (κ.objs ++ [w.heap.size])[k]? = some b
    rw [List.getElem?_append_left (List.getElem?_eq_some_iff.1 e).1]; exact e
  have hlt : ∀ {b}, b ∈ κ.objs → b < w.heap.size := fun hb => hi.obj_lt hb
  refine ⟨⟨⟨?_, ?_, ?_, hi.rows, ?_, hi.rowne, ?_, ?_, hi.wrow, ?_⟩, h.defers, h.size, fun i => Rel.mono hle _ _ (h.t i)⟩, ⟨rfl, rfl, rfl, by simp, fun b hb _ => ⟨heap_old w o b hb, fun j x => x⟩, hle⟩⟩
  · simp [hi.len]
  · intro i j b hb hb'
    simp only [List.getElem?_append] at hb hb'
    split at hb <;> split at hb'
    · exact hi.nodup i j b hb hb'
    · rename_i h1 h2
      have := hlt (List.mem_of_getElem? hb)
      have hm := List.mem_of_getElem? hb'
      simp at hm; omega
    · rename_i h1 h2
      have := hlt (List.mem_of_getElem? hb')
      have hm := List.mem_of_getElem? hb
      simp at hm; omega
    · rename_i h1 h2
      have h3 := (List.getElem?_eq_some_iff.1 hb).1
      have h4 := (List.getElem?_eq_some_iff.1 hb').1
      simp at h3 h4; omega
  · intro k b y hk hy
    simp only [List.getElem?_append] at hk hy
    rw [← hi.len] at hy
    split at hk
    · rename_i h1
      rw [if_pos h1] at hy
      exact (hi.obj k b y hk hy).mono hle (heap_old w o b (hlt (List.mem_of_getElem? hk)))
    · rename_i h1
      rw [if_neg h1] at hy
      have hm := List.mem_of_getElem? hk
      have hm' := List.mem_of_getElem? hy
      simp at hm hm'
      subst hm; subst hm'
      exact hx _ hle
  · intro k r hk
    have hr := hi.row k r hk
    obtain ⟨cur, i, h1, h2, h3, h4⟩ := hr.blk
    have hl := (Array.getElem?_eq_some_iff.1 h1).1
    refine ⟨?_, hr.le, hr.max, cur, i, (heap_old w o _ hl).trans h1, h2, h3, h4⟩
    show r.b ∉ κ.objs ++ [w.heap.size]
    simp only [List.mem_append, List.mem_singleton, not_or]
    exact ⟨hr.no, by omega⟩
  · intro b j hr
    obtain ⟨h1, v, hv⟩ := hi.rs b j hr
    have hl := hi.rs_lt hr
    refine ⟨?_, v, (World.cell?_of_block (w := w) (a := ⟨b, j, none⟩) (heap_old w o b hl)).trans hv⟩
    show b ∉ κ.objs ++ [w.heap.size]
    simp only [List.mem_append, List.mem_singleton, not_or]
    exact ⟨h1, by omega⟩
  · intro b hb
    have hb' : b ∈ κ.objs ++ [w.heap.size] := hb
    simp only [List.mem_append, List.mem_singleton] at hb'
    rcases hb' with hb' | rfl
    · exact hi.wobj b hb'
    · exact hi.wnew _ (Nat.le_refl _)
  · intro b hb
    refine hi.wnew b ?_
    have : w.heap.size ≤ (w.alloc o).heap.size := by simp
    omega
theorem StRel.setObj {n : Nat} {wr : Nat → Prop} {κ : K} {st : St} {a : Act} {w w' : World} (h : StRel n wr κ st a w) {o b : Nat} (ho : κ.objs[o]? = some b) (x : IObj)
    (h1 : w'.os = w.os) (h2 : w'.tape = w.tape) (h3 : w'.output = w.output) (h4 : w'.heap.size = w.heap.size) (h5 : ∀ k, k ≠ b → w'.heap[k]? = w.heap[k]?) (hx : Le κ w κ w' → ObjRel κ w' b x) :
    StRel n wr κ ⟨st.t, ⟨st.m.objs.set o x, st.m.rows⟩⟩ a w' ∧ Ev wr κ w κ w' := by
  have hi := h.inv
  have hb := List.mem_of_getElem? ho
  have hne : ∀ {k j}, κ.rs k j → k ≠ b := fun hr e => (hi.rs _ _ hr).1 (e ▸ hb)
  have hle : Le κ w κ w' := ⟨fun _ _ e => e, fun k r e => ⟨r, e, rfl, .inl rfl⟩, fun k j e => ⟨e, World.cell?_of_block (w := w) (h5 k (hne e))⟩⟩
  refine ⟨⟨⟨by simpa using hi.len, hi.nodup, ?_, hi.rows, ?_, hi.rowne, ?_, hi.wobj, hi.wrow, by rw [h4]; exact hi.wnew⟩, h.defers, h.size, fun i => Rel.mono hle _ _ (h.t i)⟩, ⟨h1, h2, h3, by omega, fun k hk hn => ⟨h5 k (fun e => hn (e ▸ hi.wobj b hb)), fun j x => x⟩, hle⟩⟩
  · intro k c y hk hy
    simp only [List.getElem?_set] at hy
    by_cases e : o = k
    · subst e
      rw [ho] at hk; cases hk
      rw [if_pos rfl] at hy
      split at hy
      · cases hy; exact hx hle
      · cases hy
    · rw [if_neg e] at hy
      exact (hi.obj k c y hk hy).mono hle (h5 c (fun q => e (hi.nodup o k b ho (q ▸ hk))))
  · intro k r hk
    have hr := hi.row k r hk
    obtain ⟨cur, i, g1, g2, g3, g4⟩ := hr.blk
    exact ⟨hr.no, hr.le, hr.max, cur, i, (h5 _ (fun e => hr.no (by rw [e]; exact hb))).trans g1, g2, g3, g4⟩
  · intro k j hr
    obtain ⟨g1, v, hv⟩ := hi.rs k j hr
    exact ⟨g1, v, (World.cell?_of_block (w := w) (a := ⟨k, j, none⟩) (h5 k (hne hr))).trans hv⟩
end Go.Proofs.Ytphjldhdnmoolaa.A
/- Words: triples over code, calls, what may be forgotten. -/
namespace Go.Proofs.Ytphjldhdnmoolaa.A
open Go
/-! ### operands -/
def ivc1 : Value → IV
  | .slice none 0 0 => .sl .sh 0 []
  | x => .v x
def ivc : Value → IV
  | .slice none 0 0 => .sl .full 0 []
  | .agg cs => .agg (cs.toList.map ivc1)
  | x => .v x
theorem ivc1_rel (κ : K) (w : World) (x : Value) : Rel κ w (ivc1 x) x := by
  unfold ivc1
  split
  · simp only [Rel]; exact ⟨none, 0, rfl, Nat.le_refl _, trivial, .inl trivial⟩
  · simp only [Rel]
theorem map_rel {κ : K} {w : World} {f : Value → IV} (hf : ∀ x, Rel κ w (f x) x) : ∀ l : List Value, RelL κ w (l.map f) l
  | [] => by simp only [List.map_nil, RelL]
  | x :: l => by simp only [List.map_cons, RelL]; exact ⟨x, l, rfl, hf x, map_rel hf l⟩
theorem ivc_rel (κ : K) (w : World) (x : Value) : Rel κ w (ivc x) x := by
  unfold ivc
  split
  · simp only [Rel]; exact ⟨none, 0, rfl, Nat.le_refl _, rfl, .inl trivial⟩
  · simp only [Rel]; exact ⟨_, rfl, map_rel (ivc1_rel κ w) _⟩
  · simp only [Rel]
def St.ev (st : St) : Operand → IV
  | .tmp t => st.t t
  | .const c => ivc c
  | .global g => .v (.pointer (some ⟨g, 0, none⟩))
  | .func f => .v (.func (.func f) #[] #[])
theorem StRel.ev {n : Nat} {wr : Nat → Prop} {κ : K} {st : St} {a : Act} {w : World} (h : StRel n wr κ st a w) (x : Operand) : Rel κ w (st.ev x) (a.eval x) := by
  cases x with
  | tmp t => exact h.t t
  | const c => exact ivc_rel κ w c
  | global g => simp only [St.ev, Rel, Act.eval]
  | func f => simp only [St.ev, Rel, Act.eval]
def IV.sh : IV → IV
  | .sl _ n l => .sl .sh n l
  | x => x
theorem sh_rel {κ : K} {w : World} {x : IV} {y : Value} (h : Rel κ w x y) : Rel κ w x.sh y := by
  cases x with
  | sl k n l =>
    simp only [IV.sh, Rel] at *
    obtain ⟨A, c, e, hn, _, hl⟩ := h
    exact ⟨A, c, e, hn, trivial, hl⟩
  | _ => exact h
theorem shL_rel {κ : K} {w : World} : ∀ {l : List IV} {vs : List Value}, RelL κ w l vs → RelL κ w (l.map IV.sh) vs
  | [], vs, h => h
  | x :: l, vs, h => by
    simp only [List.map_cons, RelL] at *
    obtain ⟨v, vs', e, h1, h2⟩ := h
    exact ⟨v, vs', e, sh_rel h1, shL_rel h2⟩
def IV.one : IV → Bool
  | .v x => x.oneCell'
  | .agg _ => false
  | .tup _ => false
  | .any => false
  | _ => true
theorem one_rel {κ : K} {w : World} {x : IV} {y : Value} (hx : x.one = true) (h : Rel κ w x y) : y.oneCell' = true := by
  cases x with
  | v x => simp only [Rel] at h; subst h; exact hx
  | agg l => cases hx
  | tup l => cases hx
  | any => cases hx
  | sl k n l => simp only [Rel] at h; obtain ⟨A, c, rfl, _⟩ := h; rfl
  | ref l => simp only [Rel] at h; obtain ⟨b, off, rfl, _⟩ := h; rfl
  | ptr o off => simp only [Rel] at h; obtain ⟨b, _, rfl⟩ := h; rfl
  | map o => simp only [Rel] at h; obtain ⟨b, _, rfl⟩ := h; rfl
  | vec o n c => simp only [Rel] at h; obtain ⟨_, ⟨_, A, rfl⟩ | ⟨b, _, rfl⟩⟩ := h <;> rfl
  | iface T x => simp only [Rel] at h; obtain ⟨u, rfl, _⟩ := h; rfl
theorem cells_one {y : Value} (h : y.oneCell' = true) : y.cells = #[y] := by cases y <;> first | rfl | cases h
/-- The cells of a value that is laid into memory. -/
def IV.cells (keep : Bool) : IV → Option (List IV)
  | .agg l => if l.all IV.one then some (if keep then l else l.map IV.sh) else none
  | x => if x.one then some [if keep then x else x.sh] else none
theorem cells_rel {κ : K} {w : World} {keep : Bool} {x : IV} {y : Value} {l : List IV} (hx : x.cells keep = some l) (h : Rel κ w x y) : RelL κ w l y.cells.toList := by
  have one : ∀ x : IV, x.one = true → Rel κ w x y → RelL κ w [if keep then x else x.sh] y.cells.toList := by
    intro x h1 hr
    rw [cells_one (one_rel h1 hr)]
    simp only [RelL]
    refine ⟨y, [], rfl, ?_, rfl⟩
    split
    · exact hr
    · exact sh_rel hr
  cases x with
  | agg l' =>
    simp only [IV.cells] at hx
    split at hx
    · cases hx
      simp only [Rel] at h
      obtain ⟨vs, rfl, hl⟩ := h
      split
      · exact hl
      · exact shL_rel hl
    · cases hx
  | tup l' => simp [IV.cells, IV.one] at hx
  | any => simp [IV.cells, IV.one] at hx
  | _ =>
    simp only [IV.cells] at hx
    split at hx
    · rename_i h1; cases hx; exact one _ h1 h
    · cases hx
theorem all_one {κ : K} {w : World} : ∀ {l : List IV} {vs : List Value}, l.all IV.one = true → RelL κ w l vs → ∀ u ∈ vs, u.oneCell' = true
  | [], vs, _, h => by simp only [RelL] at h; subst h; simp
  | i :: l, vs, h1, h => by
    simp only [RelL] at h
    obtain ⟨v, vs', rfl, hi, hl⟩ := h
    simp only [List.all_cons, Bool.and_eq_true] at h1
    intro u hu
    rcases List.mem_cons.1 hu with rfl | hu
    · exact one_rel h1.1 hi
    · exact all_one h1.2 hl u hu
theorem cells_ones {κ : K} {w : World} {keep : Bool} {x : IV} {y : Value} {l : List IV} (hx : x.cells keep = some l) (h : Rel κ w x y) : ∀ u ∈ y.cells.toList, u.oneCell' = true := by
  cases x with
  | agg l' =>
    simp only [IV.cells] at hx
    split at hx
    · rename_i h1
      simp only [Rel] at h
      obtain ⟨vs, rfl, hl⟩ := h
      exact all_one h1 hl
    · cases hx
  | tup l' => simp [IV.cells, IV.one] at hx
  | any => simp [IV.cells, IV.one] at hx
  | _ =>
    simp only [IV.cells] at hx
    split at hx
    · rename_i h1
      have := one_rel h1 h
      rw [cells_one this]
      simpa using this
    · cases hx
/-! ### calls -/
def wr0 (κ : K) (w : World) (b : Nat) : Prop := b ∈ κ.objs ∨ (∃ (k : Nat) (r : Row), κ.rows[k]? = some r ∧ r.b = b) ∨ w.heap.size ≤ b
theorem wr0_le {wr : Nat → Prop} {κ : K} {w : World} {m : Mem} (h : Inv wr κ w m) (b : Nat) (hb : wr0 κ w b) : wr b := by
  rcases hb with hb | ⟨k, r, hk, rfl⟩ | hb
  · exact h.wobj b hb
  · exact h.wrow k r hk
  · exact h.wnew b hb
theorem Inv.to0 {wr : Nat → Prop} {κ : K} {w : World} {m : Mem} (h : Inv wr κ w m) : Inv (wr0 κ w) κ w m :=
  ⟨h.len, h.nodup, h.obj, h.rows, h.row, h.rowne, h.rs, fun _ hb => .inl hb, fun k r hk => .inr (.inl ⟨k, r, hk, rfl⟩), fun _ hb => .inr (.inr hb)⟩
theorem Inv.weaken {wr wr' : Nat → Prop} {κ : K} {w : World} {m : Mem} (h : Inv wr κ w m) (g : ∀ b, wr b → wr' b) : Inv wr' κ w m :=
  ⟨h.len, h.nodup, h.obj, h.rows, h.row, h.rowne, h.rs, fun b hb => g b (h.wobj b hb), fun k r hk => g _ (h.wrow k r hk), fun b hb => g b (h.wnew b hb)⟩
def Sim (f : FuncId) (args : List IV) (m : Mem) (R : IV → Mem → Prop) : Prop :=
  ∀ (κ : K) (w : World) (vs : Array Value), Inv (wr0 κ w) κ w m → RelL κ w args vs.toList →
    Calls P f vs w fun e w' => ∃ κ' v r m', e = .returned v ∧ Ev (wr0 κ w) κ w κ' w' ∧ Inv (wr0 κ w) κ' w' m' ∧ Rel κ' w' r v ∧ R r m'
theorem Sim.mono {f : FuncId} {args : List IV} {m : Mem} {R R' : IV → Mem → Prop} (h : Sim f args m R) (g : ∀ r m', R r m' → R' r m') : Sim f args m R' :=
  fun κ w vs hi hl => (h κ w vs hi hl).mono fun _ _ ⟨κ', v, r, m', h1, h2, h3, h4, h5⟩ => ⟨κ', v, r, m', h1, h2, h3, h4, g r m' h5⟩
/-! ### what may be forgotten -/
def SK.np (nr : Nat) : SK → Bool
  | .row k _ => decide (k < nr)
  | _ => true
mutual
def IV.np (no nr : Nat) : IV → Bool
  | .v _ => true
  | .agg l => npL no nr l
  | .tup l => npL no nr l
  | .sl k _ l => k.np nr && npL no nr l
  | .ref l => npL no nr l
  | .ptr o _ => decide (o < no)
  | .map o => decide (o < no)
  | .vec o _ c => decide (c = 0) || decide (o < no)
  | .iface _ x => x.np no nr
  | .any => true
def npL (no nr : Nat) : List IV → Bool
  | [] => true
  | x :: l => x.np no nr && npL no nr l
end
def K.cut (κ : K) (no nr : Nat) : K := ⟨κ.objs.take no, κ.rows.take nr, κ.rs⟩
mutual
theorem Rel.cut {κ : K} {w : World} {no nr : Nat} : ∀ (x : IV) (y : Value), x.np no nr = true → Rel κ w x y → Rel (κ.cut no nr) w x y
  | .v x, y, _, h => by simp only [Rel] at *; exact h
  | .agg l, y, hn, h => by simp only [Rel, IV.np] at *; obtain ⟨vs, e, hl⟩ := h; exact ⟨vs, e, RelL.cut l _ hn hl⟩
  | .tup l, y, hn, h => by simp only [Rel, IV.np] at *; obtain ⟨vs, e, hl⟩ := h; exact ⟨vs, e, RelL.cut l _ hn hl⟩
  | .sl k n l, y, hn, h => by
    simp only [Rel, IV.np, Bool.and_eq_true] at *
    obtain ⟨A, c, e, h1, h2, h3⟩ := h
    refine ⟨A, c, e, h1, ?_, ?_⟩
    · cases k with
      | sh => trivial
      | full => exact h2
      | row k E =>
        obtain ⟨r, g1, g2⟩ := h2
        have hk : k < nr := by simpa [SK.np] using hn.1
        exact ⟨r, by show (κ.rows.take nr)[k]? = some r; rw [List.getElem?_take, if_pos hk]; exact g1, g2⟩
    · rcases h3 with h3 | ⟨b, off, e, hl⟩
      · exact .inl h3
      · exact .inr ⟨b, off, e, RelC.cut l b off hn.2 hl⟩
  | .ref l, y, hn, h => by simp only [Rel, IV.np] at *; obtain ⟨b, off, e, hl⟩ := h; exact ⟨b, off, e, RelC.cut l b off hn hl⟩
  | .ptr o off, y, hn, h => by
    simp only [Rel, IV.np, decide_eq_true_eq] at *
    obtain ⟨b, hb, e⟩ := h
    exact ⟨b, by show (κ.objs.take no)[o]? = some b; rw [List.getElem?_take, if_pos hn]; exact hb, e⟩
  | .map o, y, hn, h => by
    simp only [Rel, IV.np, decide_eq_true_eq] at *
    obtain ⟨b, hb, e⟩ := h
    exact ⟨b, by show (κ.objs.take no)[o]? = some b; rw [List.getElem?_take, if_pos hn]; exact hb, e⟩
  | .vec o n c, y, hn, h => by
    simp only [Rel, IV.np, Bool.or_eq_true, decide_eq_true_eq] at *
    obtain ⟨h1, h2⟩ := h
    refine ⟨h1, ?_⟩
    rcases h2 with h2 | ⟨b, hb, e⟩
    · exact .inl h2
    · rcases hn with hn | hn
      · exact .inl ⟨hn, some ⟨b, 0, none⟩, by rw [e, hn, show n = 0 by omega]⟩
      · exact .inr ⟨b, by show (κ.objs.take no)[o]? = some b; rw [List.getElem?_take, if_pos hn]; exact hb, e⟩
  | .iface T x, y, hn, h => by simp only [Rel, IV.np] at *; obtain ⟨u, e, hu⟩ := h; exact ⟨u, e, Rel.cut x u hn hu⟩
  | .any, y, _, h => by simp only [Rel]
theorem RelL.cut {κ : K} {w : World} {no nr : Nat} : ∀ (l : List IV) (vs : List Value), npL no nr l = true → RelL κ w l vs → RelL (κ.cut no nr) w l vs
  | [], vs, _, h => by simp only [RelL] at *; exact h
  | x :: l, vs, hn, h => by
    simp only [RelL, npL, Bool.and_eq_true] at *
    obtain ⟨v, vs', e, h1, h2⟩ := h
    exact ⟨v, vs', e, Rel.cut x v hn.1 h1, RelL.cut l vs' hn.2 h2⟩
theorem RelC.cut {κ : K} {w : World} {no nr : Nat} : ∀ (l : List IV) (b off : Nat), npL no nr l = true → RelC κ w b off l → RelC (κ.cut no nr) w b off l
  | [], b, off, _, h => by simp only [RelC]
  | x :: l, b, off, hn, h => by
    simp only [RelC, npL, Bool.and_eq_true] at *
    obtain ⟨h1, ⟨v, hv, hx⟩, hl⟩ := h
    exact ⟨h1, ⟨v, hv, Rel.cut x v hn.1 hx⟩, RelC.cut l b (off + 1) hn.2 hl⟩
end
def IObj.np (no nr : Nat) : IObj → Bool
  | .cells l => npL no nr l
  | .map _ _ => true
structure DropM (no nr : Nat) (m m' : Mem) : Prop where
  objs : m'.objs = m.objs.take no
  rows : m'.rows = m.rows.take nr
  np : ∀ (o : Nat) (x : IObj), m.objs[o]? = some x → o < no → x.np no nr = true
theorem Inv.cut {wr : Nat → Prop} {κ : K} {w : World} {m m' : Mem} {no nr : Nat} (h : Inv wr κ w m) (d : DropM no nr m m') : Inv wr (κ.cut no nr) w m' := by
  have hsub : ∀ {o b : Nat}, (κ.cut no nr).objs[o]? = some b → κ.objs[o]? = some b ∧ o < no := by
    intro o b hb
    have hb' : (κ.objs.take no)[o]? = some b := hb
    rw [List.getElem?_take] at hb'
    split at hb'
    · rename_i hl; exact ⟨hb', hl⟩
    · cases hb'
  have hmem : ∀ {b : Nat}, b ∈ (κ.cut no nr).objs → b ∈ κ.objs := fun hb => List.mem_of_mem_take (show _ ∈ κ.objs.take no from hb)
  have hrow : ∀ {k : Nat} {r : Row}, (κ.cut no nr).rows[k]? = some r → κ.rows[k]? = some r := by
    intro k r hk
    have hk' : (κ.rows.take nr)[k]? = some r := hk
    rw [List.getElem?_take] at hk'
    split at hk'
    · exact hk'
    · cases hk'
  refine ⟨?_, fun i j b hb hb' => h.nodup i j b (hsub hb).1 (hsub hb').1, ?_, ?_, ?_, fun i j r r' hr hr' => h.rowne i j r r' (hrow hr) (hrow hr'), fun b j hr => ⟨fun hb => (h.rs b j hr).1 (hmem hb), (h.rs b j hr).2⟩, fun b hb => h.wobj b (hmem hb), fun k r hk => h.wrow k r (hrow hk), h.wnew⟩
  · show (κ.objs.take no).length = _
    rw [d.objs, List.length_take, List.length_take, h.len]
  · intro o b x hb hx
    obtain ⟨hb, hl⟩ := hsub hb
    rw [d.objs, List.getElem?_take, if_pos hl] at hx
    have hn := d.np o x hx hl
    have := h.obj o b x hb hx
    cases x with
    | cells l => obtain ⟨arr, T, e, hr⟩ := this; exact ⟨arr, T, e, RelL.cut l _ hn hr⟩
    | map es c => exact this
  · rw [d.rows, h.rows, ← List.map_take]; rfl
  · intro k r hk
    have hr := h.row k r (hrow hk)
    exact ⟨fun hb => hr.no (hmem hb), hr.le, hr.max, hr.blk⟩
theorem Ev.cut {wr : Nat → Prop} {κ κ' : K} {w w' : World} (h : Ev wr κ w κ' w') {no nr : Nat} (h1 : κ.objs.length ≤ no) (h2 : κ.rows.length ≤ nr) : Ev wr κ w (κ'.cut no nr) w' := by
  refine ⟨h.os, h.tape, h.output, h.size, h.keep, ⟨fun o b hb => ?_, fun k r hk => ?_, h.le.rs⟩⟩
  · have := (List.getElem?_eq_some_iff.1 hb).1
    show (κ'.objs.take no)[o]? = some b
    rw [List.getElem?_take, if_pos (by omega)]; exact h.le.objs o b hb
  · have := (List.getElem?_eq_some_iff.1 hk).1
    obtain ⟨r', g1, g2⟩ := h.le.rows k r hk
    exact ⟨r', by show (κ'.rows.take nr)[k]? = some r'; rw [List.getElem?_take, if_pos (by omega)]; exact g1, g2⟩
mutual
theorem IV.np_mono {no nr no' nr' : Nat} (h1 : no ≤ no') (h2 : nr ≤ nr') : ∀ x : IV, x.np no nr = true → x.np no' nr' = true
  | .v _, _ => by simp only [IV.np]
  | .agg l, h => by simp only [IV.np] at *; exact npL_mono h1 h2 l h
  | .tup l, h => by simp only [IV.np] at *; exact npL_mono h1 h2 l h
  | .sl k _ l, h => by
    simp only [IV.np, Bool.and_eq_true] at *
    refine ⟨?_, npL_mono h1 h2 l h.2⟩
    cases k with
    | row j E => simp only [SK.np, decide_eq_true_eq] at *; omega
    | _ => rfl
  | .ref l, h => by simp only [IV.np] at *; exact npL_mono h1 h2 l h
  | .ptr o _, h => by simp only [IV.np, decide_eq_true_eq] at *; omega
  | .map o, h => by simp only [IV.np, decide_eq_true_eq] at *; omega
  | .vec o _ c, h => by simp only [IV.np, Bool.or_eq_true, decide_eq_true_eq] at *; omega
  | .iface _ x, h => by simp only [IV.np] at *; exact IV.np_mono h1 h2 x h
  | .any, _ => by simp only [IV.np]
theorem npL_mono {no nr no' nr' : Nat} (h1 : no ≤ no') (h2 : nr ≤ nr') : ∀ l : List IV, npL no nr l = true → npL no' nr' l = true
  | [], _ => by simp only [npL]
  | x :: l, h => by simp only [npL, Bool.and_eq_true] at *; exact ⟨IV.np_mono h1 h2 x h.1, npL_mono h1 h2 l h.2⟩
end
mutual
theorem Rel.np {κ : K} {w : World} : ∀ (x : IV) (y : Value), Rel κ w x y → x.np κ.objs.length κ.rows.length = true
  | .v _, _, _ => by simp only [IV.np]
  | .agg l, y, h => by simp only [Rel, IV.np] at *; obtain ⟨vs, _, h⟩ := h; exact RelL.np l _ h
  | .tup l, y, h => by simp only [Rel, IV.np] at *; obtain ⟨vs, _, h⟩ := h; exact RelL.np l _ h
  | .sl k _ l, y, h => by
    simp only [Rel, IV.np, Bool.and_eq_true] at *
    obtain ⟨A, c, _, _, hk, h⟩ := h
    refine ⟨?_, ?_⟩
    · cases k with
      | row j E => obtain ⟨r, h1, _⟩ := hk; simp only [SK.np, decide_eq_true_eq]; exact (List.getElem?_eq_some_iff.1 h1).1
      | _ => rfl
    · rcases h with rfl | ⟨b, off, _, h⟩
      · simp only [npL]
      · exact RelC.np l b off h
  | .ref l, y, h => by simp only [Rel, IV.np] at *; obtain ⟨b, off, _, h⟩ := h; exact RelC.np l b off h
  | .ptr o _, y, h => by simp only [Rel, IV.np, decide_eq_true_eq] at *; obtain ⟨b, h, _⟩ := h; exact (List.getElem?_eq_some_iff.1 h).1
  | .map o, y, h => by simp only [Rel, IV.np, decide_eq_true_eq] at *; obtain ⟨b, h, _⟩ := h; exact (List.getElem?_eq_some_iff.1 h).1
  | .vec o _ c, y, h => by
    simp only [Rel, IV.np, Bool.or_eq_true, decide_eq_true_eq] at *
    obtain ⟨_, ⟨h, _⟩ | ⟨b, h, _⟩⟩ := h
    · exact .inl h
    · exact .inr (List.getElem?_eq_some_iff.1 h).1
  | .iface _ x, y, h => by simp only [Rel, IV.np] at *; obtain ⟨u, _, h⟩ := h; exact Rel.np x u h
  | .any, _, _ => by simp only [IV.np]
theorem RelL.np {κ : K} {w : World} : ∀ (l : List IV) (vs : List Value), RelL κ w l vs → npL κ.objs.length κ.rows.length l = true
  | [], _, _ => by simp only [npL]
  | x :: l, vs, h => by
    simp only [RelL, npL, Bool.and_eq_true] at *
    obtain ⟨v, vs', _, h1, h2⟩ := h
    exact ⟨Rel.np x v h1, RelL.np l vs' h2⟩
theorem RelC.np {κ : K} {w : World} : ∀ (l : List IV) (b off : Nat), RelC κ w b off l → npL κ.objs.length κ.rows.length l = true
  | [], _, _, _ => by simp only [npL]
  | x :: l, b, off, h => by
    simp only [RelC, npL, Bool.and_eq_true] at *
    obtain ⟨_, ⟨v, _, h1⟩, h2⟩ := h
    exact ⟨Rel.np x v h1, RelC.np l b (off + 1) h2⟩
end
/-- What is cut off is what has come since m0; the objects that are kept are as they were in m0, or name none that is cut off. -/
structure DropW (m0 : Mem) (no nr : Nat) (m m' : Mem) : Prop where
  objs : m'.objs = m.objs.take no
  rows : m'.rows = m.rows.take nr
  lo : m0.objs.length ≤ no
  lr : m0.rows.length ≤ nr
  np : ∀ (o : Nat) (x : IObj), m.objs[o]? = some x → o < no → m0.objs[o]? = some x ∨ x.np no nr = true
theorem DropW.strong {wr : Nat → Prop} {κ : K} {w : World} {m0 m m' : Mem} {no nr : Nat} (h : DropW m0 no nr m m') (hi : Inv wr κ w m0) : DropM no nr m m' := by
  refine ⟨h.objs, h.rows, fun o x hx hl => ?_⟩
  rcases h.np o x hx hl with h0 | h0
  · have hlt : o < κ.objs.length := by rw [hi.len]; exact (List.getElem?_eq_some_iff.1 h0).1
    have := hi.obj o κ.objs[o] x (List.getElem?_eq_getElem hlt) h0
    cases x with
    | cells l =>
      obtain ⟨arr, T, _, hr⟩ := this
      have h1 := RelL.np l _ hr
      have hrl : κ.rows.length ≤ nr := by have := h.lr; rw [hi.rows, List.length_map] at this; exact this
      exact npL_mono (by rw [hi.len]; exact h.lo) hrl l h1
    | map es c => rfl
  · exact h0
theorem DropW.refl (m : Mem) : DropW m m.objs.length m.rows.length m m :=
  ⟨by simp, by simp, Nat.le_refl _, Nat.le_refl _, fun o x hx _ => .inl hx⟩
structure Drop (no nr : Nat) (s s' : St) : Prop where
  m : DropM no nr s.m s'.m
  t : ∀ i, s'.t i = .any ∨ ((s'.t i = s.t i ∨ s'.t i = (s.t i).sh) ∧ (s'.t i).np no nr = true)
theorem StRel.drop {n : Nat} {wr : Nat → Prop} {κ : K} {s s' : St} {a : Act} {w : World} (h : StRel n wr κ s a w) {no nr : Nat} (d : Drop no nr s s') : StRel n wr (κ.cut no nr) s' a w := by
  refine ⟨h.inv.cut d.m, h.defers, h.size, fun i => ?_⟩
  rcases d.t i with e | ⟨e, hn⟩
  · rw [e]; simp only [Rel]
  · refine Rel.cut _ _ hn ?_
    rcases e with e | e
    · rw [e]; exact h.t i
    · rw [e]; exact sh_rel (h.t i)
/-! ### triples -/
def T (n : Nat) (wr : Nat → Prop) (cd : Code) (st : St) (Q : Exit → St → Prop) : Prop :=
  ∀ (κ : K) (a : Act) (w : World), StRel n wr κ st a w → cd.wp P (fun e a' w' => ∃ κ' st', Ev wr κ w κ' w' ∧ StRel n wr κ' st' a' w' ∧ Q e st') a w
section
variable {n : Nat} {wr : Nat → Prop} {st : St} {Q : Exit → St → Prop}
theorem T.mono {cd : Code} {Q' : Exit → St → Prop} (h : T n wr cd st Q) (g : ∀ e s, Q e s → Q' e s) : T n wr cd st Q' :=
  fun κ a w hr => wp_mono (h κ a w hr) fun _ _ _ ⟨κ', s', h1, h2, h3⟩ => ⟨κ', s', h1, h2, g _ _ h3⟩
def thenE (K : St → Prop) (Q : Exit → St → Prop) : Exit → St → Prop
  | .normal, s => K s
  | e, s => Q e s
def blockE (id : Nat) (Q : Exit → St → Prop) : Exit → St → Prop
  | .exit id', s => if id' = id then Q .normal s else Q (.exit id') s
  | e, s => Q e s
theorem T.skip (h : Q .normal st) : T n wr .skip st Q := fun κ a w hr => wp_skip ⟨κ, st, Ev.refl _ _ _, hr, h⟩
theorem T.label {l : Nat} (h : Q .normal st) : T n wr (.label l) st Q := fun κ a w hr => wp_label ⟨κ, st, Ev.refl _ _ _, hr, h⟩
theorem T.exit {id : Nat} (h : Q (.exit id) st) : T n wr (.exit id) st Q := fun κ a w hr => wp_exit ⟨κ, st, Ev.refl _ _ _, hr, h⟩
theorem T.goto {id : Nat} (h : Q (.goto id) st) : T n wr (.goto id) st Q := fun κ a w hr => wp_goto ⟨κ, st, Ev.refl _ _ _, hr, h⟩
theorem T.ret (h : Q .ret st) : T n wr .ret st Q := fun κ a w hr => wp_ret ⟨κ, st, Ev.refl _ _ _, hr, h⟩
theorem T.seq {x y : Code} (h : T n wr x st (thenE (fun s => T n wr y s Q) Q)) : T n wr (.seq x y) st Q := by
  intro κ a w hr
  refine wp_seq (wp_mono (h κ a w hr) ?_)
  rintro e a' w' ⟨κ', s', h1, h2, h3⟩
  cases e with
  | normal =>
    refine wp_mono (h3 κ' a' w' h2) ?_
    rintro e a2 w2 ⟨κ2, s2, g1, g2, g3⟩
    exact ⟨κ2, s2, h1.trans g1, g2, g3⟩
  | exit id => exact ⟨κ', s', h1, h2, h3⟩
  | goto l => exact ⟨κ', s', h1, h2, h3⟩
  | ret => exact ⟨κ', s', h1, h2, h3⟩
  | panic ch => exact ⟨κ', s', h1, h2, h3⟩
  | outgrown => exact ⟨κ', s', h1, h2, h3⟩
theorem T.cond {c : Operand} {x y : Code} {t : Bool} (hc : st.ev c = .v (.bool t)) (h : T n wr (if t then x else y) st Q) : T n wr (.cond c x y) st Q := by
  intro κ a w hr
  have he := hr.ev c
  rw [hc] at he
  simp only [Rel] at he
  exact wp_cond he (h κ a w hr)
theorem T.block {id : Nat} {x : Code} (h : T n wr x st (blockE id Q)) : T n wr (.block id x) st Q := by
  intro κ a w hr
  refine wp_block (wp_mono (h κ a w hr) ?_)
  rintro e a' w' ⟨κ', s', h1, h2, h3⟩
  cases e with
  | exit id' =>
    simp only [blockE] at h3
    simp only [Exit.inBlock]
    split
    · rename_i e; rw [if_pos e] at h3; exact ⟨κ', s', h1, h2, h3⟩
    · rename_i e; rw [if_neg e] at h3; exact ⟨κ', s', h1, h2, h3⟩
  | normal => exact ⟨κ', s', h1, h2, h3⟩
  | goto l => exact ⟨κ', s', h1, h2, h3⟩
  | ret => exact ⟨κ', s', h1, h2, h3⟩
  | panic ch => exact ⟨κ', s', h1, h2, h3⟩
  | outgrown => exact ⟨κ', s', h1, h2, h3⟩
def Has (l : List (Nat × IV)) (s : St) : Prop := ∀ p ∈ l, s.t p.1 = p.2
/-- A loop: x tells the slots that are looked at, and the memory. -/
theorem T.loop {α : Type} {c : Code} (l : α → List (Nat × IV)) (mm : α → Mem) (I : α → Prop) (μ : α → Nat) (x0 : α) (uniq : ∀ y, ∀ p ∈ l y, ∀ q ∈ l y, p.1 = q.1 → p.2 = q.2) (h0 : Has (l x0) st ∧ st.m = mm x0 ∧ I x0)
    (round : ∀ x s, Has (l x) s → s.m = mm x → I x → T n wr c s (thenE (fun s' => ∃ no nr y, DropW (mm x) no nr s'.m (mm y) ∧ (∀ p ∈ l y, (s'.t p.1 = p.2 ∨ (s'.t p.1).sh = p.2) ∧ p.2.np no nr = true) ∧ I y ∧ μ y < μ x) Q)) : T n wr (.loop c) st Q := by
  have key : ∀ (N : Nat) (κ0 : K) (w0 : World) (x : α) (κ : K) (s : St) (a : Act) (w : World), μ x = N → Has (l x) s → s.m = mm x → I x → Ev wr κ0 w0 κ w → StRel n wr κ s a w → ∀ (b : Frame) (k : List Item) (cs : List Frame),
      ∃ e a' w', (∃ κ' s', Ev wr κ0 w0 κ' w' ∧ StRel n wr κ' s' a' w' ∧ Q e s') ∧ Arrives P (lone (b.at a (.code c :: .inLoop c :: k)) cs w) b k cs e a' w' := by
    intro N
    induction N using Nat.strongRecOn with
    | _ N ih =>
      intro κ0 w0 x κ s a w hN hH hm hI hev hr b k cs
      obtain ⟨e, a1, w1, ⟨κ1, s1, h1, h2, h3⟩, harr⟩ := round x s hH hm hI κ a w hr b (.inLoop c :: k) cs
      cases e with
      | normal =>
        obtain ⟨no, nr, y, g1, g2, g3, g4⟩ := h3
        have hlo : κ.objs.length ≤ no := by rw [hr.inv.len, hm]; exact g1.lo
        have hlr : κ.rows.length ≤ nr := by have := g1.lr; rw [← hm, hr.inv.rows, List.length_map] at this; exact this
        have hle : Ev wr κ w (κ1.cut no nr) w1 := h1.cut hlo hlr
        have hd := g1.strong (hm ▸ hr.inv)
        let s2 : St := ⟨fun i => match (l y).find? (fun p => p.1 == i) with | some p => p.2 | none => .any, mm y⟩
        have hdrop : Drop no nr s1 s2 := by
          refine ⟨hd, fun i => ?_⟩
          show (match (l y).find? (fun p => p.1 == i) with | some p => p.2 | none => .any) = .any ∨ _
          cases hf : (l y).find? (fun p => p.1 == i) with
          | none => exact .inl rfl
          | some p =>
            right
            have hmem := List.mem_of_find?_eq_some hf
            have hi : p.1 = i := by have := List.find?_some hf; simpa using this
            have := g2 p hmem
            rw [hi] at this
            have e2 : s2.t i = p.2 := by show (match (l y).find? (fun p => p.1 == i) with | some p => p.2 | none => IV.any) = p.2; rw [hf]
            rw [e2]
            refine ⟨?_, this.2⟩
            rcases this.1 with q | q
            · exact .inl q.symm
            · exact .inr q.symm
        have hH2 : Has (l y) s2 := by
          intro p hp
          show (match (l y).find? (fun q => q.1 == p.1) with | some q => q.2 | none => .any) = p.2
          cases hf : (l y).find? (fun q => q.1 == p.1) with
          | none => have := List.find?_eq_none.1 hf p hp; simp at this
          | some q =>
            have hmem := List.mem_of_find?_eq_some hf
            have hi : q.1 = p.1 := by have := List.find?_some hf; simpa using this
            have g5 := g2 q hmem
            have g6 := g2 p hp
            rw [hi] at g5
            show q.2 = p.2
            exact uniq y q hmem p hp hi
        obtain ⟨e2, a2, w2, hq, harr2⟩ := ih (μ y) (hN ▸ g4) κ0 w0 y (κ1.cut no nr) s2 a1 w1 rfl hH2 rfl g3 (hev.trans hle) (h2.drop hdrop) b k cs
        exact ⟨e2, a2, w2, hq, .of_steps (Steps.trans harr (.one step_inLoop)) harr2⟩
      | exit id => exact ⟨_, a1, w1, ⟨κ1, s1, hev.trans h1, h2, h3⟩, .pass (x := .inLoop c) rfl (fun _ _ => .inl (by simp)) harr⟩
      | goto l => exact ⟨_, a1, w1, ⟨κ1, s1, hev.trans h1, h2, h3⟩, .pass (x := .inLoop c) rfl (fun _ _ => .inl (by simp)) harr⟩
      | ret => exact ⟨_, a1, w1, ⟨κ1, s1, hev.trans h1, h2, h3⟩, .pass (x := .inLoop c) rfl (fun _ _ => .inl (by simp)) harr⟩
      | panic ch => exact ⟨_, a1, w1, ⟨κ1, s1, hev.trans h1, h2, h3⟩, .pass (x := .inLoop c) rfl (fun _ _ => .inl (by simp)) harr⟩
      | outgrown => exact ⟨_, a1, w1, ⟨κ1, s1, hev.trans h1, h2, h3⟩, .pass (x := .inLoop c) rfl (fun _ _ => .inl (by simp)) harr⟩
  intro κ a w hr b k cs
  obtain ⟨e, a', w', hq, harr⟩ := key _ κ w x0 κ st a w rfl h0.1 h0.2.1 h0.2.2 (Ev.refl _ _ _) hr b k cs
  exact ⟨e, a', w', hq, .of_steps (.one step_loop) harr⟩
end
end Go.Proofs.Ytphjldhdnmoolaa.A
/- Words: what types are; operations that write nothing. -/
namespace Go.Proofs.Ytphjldhdnmoolaa.A
open Go
/-! ### the types that occur: made of several cells?, how many, bytes -/
def tyTab : List (Nat × Bool × Nat × Nat) := [(2, false, 1, 8), (3, false, 1, 8), (4, false, 1, 1), (5, false, 1, 1), (9, false, 1, 16), (23, false, 1, 24), (24, false, 1, 24), (25, false, 1, 24), (37, false, 1, 24), (43, false, 1, 16), (56, false, 1, 24), (65, false, 1, 8), (76, false, 1, 8), (89, false, 1, 8), (92, false, 1, 24), (107, false, 1, 8), (108, false, 1, 8), (109, false, 1, 8), (115, false, 1, 8), (121, false, 1, 24), (156, false, 1, 8),
  (27, true, 5, 112), (31, true, 4, 32), (39, true, 3, 64), (48, true, 60, 480), (50, true, 61, 488), (60, true, 3, 32), (68, true, 13, 208), (71, true, 6, 96), (82, true, 3, 64), (91, true, 3, 40), (95, true, 2, 24), (99, true, 5, 64), (104, true, 7, 112), (111, true, 8, 64), (118, true, 63, 512), (124, true, 2, 16)]
def ty (t : Nat) : Option (Bool × Nat × Nat) := match t with
  | 2 => some (false, 1, 8)
  | 3 => some (false, 1, 8)
  | 4 => some (false, 1, 1)
  | 5 => some (false, 1, 1)
  | 9 => some (false, 1, 16)
  | 23 => some (false, 1, 24)
  | 24 => some (false, 1, 24)
  | 25 => some (false, 1, 24)
  | 37 => some (false, 1, 24)
  | 43 => some (false, 1, 16)
  | 56 => some (false, 1, 24)
  | 65 => some (false, 1, 8)
  | 76 => some (false, 1, 8)
  | 89 => some (false, 1, 8)
  | 92 => some (false, 1, 24)
  | 107 => some (false, 1, 8)
  | 108 => some (false, 1, 8)
  | 109 => some (false, 1, 8)
  | 115 => some (false, 1, 8)
  | 121 => some (false, 1, 24)
  | 156 => some (false, 1, 8)
  | 27 => some (true, 5, 112)
  | 31 => some (true, 4, 32)
  | 39 => some (true, 3, 64)
  | 48 => some (true, 60, 480)
  | 50 => some (true, 61, 488)
  | 60 => some (true, 3, 32)
  | 68 => some (true, 13, 208)
  | 71 => some (true, 6, 96)
  | 82 => some (true, 3, 64)
  | 91 => some (true, 3, 40)
  | 95 => some (true, 2, 24)
  | 99 => some (true, 5, 64)
  | 104 => some (true, 7, 112)
  | 111 => some (true, 8, 64)
  | 118 => some (true, 63, 512)
  | 124 => some (true, 2, 16)
  | _ => none
noncomputable def tyOK (x : Nat × Bool × Nat × Nat) : Bool :=
  (match P.info? x.1 with | some i => i.size == x.2.2.1 && i.bytes == x.2.2.2 | none => false) &&
  (match P.underlying x.1 with | some (.struct _) | some (.array _ _) => x.2.1 | some _ => !x.2.1 | none => false)
theorem tyTab_ok : tyTab.all tyOK = true := by kernel_rfl
theorem ty_mem {t : Nat} {x : Bool × Nat × Nat} (h : ty t = some x) : (t, x) ∈ tyTab := by
  unfold ty at h
  split at h <;> first | (cases h; simp [tyTab]; done) | cases h
theorem ty_ok {t : Nat} {ag : Bool} {n by_ : Nat} (h : ty t = some (ag, n, by_)) : (∃ i, P.info? t = some i ∧ i.size = n ∧ i.bytes = by_) ∧ (∃ d, P.underlying t = some d ∧ (match d with | .struct _ | .array _ _ => true | _ => false) = ag) := by
  have h1 := List.all_eq_true.1 tyTab_ok _ (ty_mem h)
  simp only [tyOK, Bool.and_eq_true] at h1
  obtain ⟨h1, h2⟩ := h1
  generalize P.info? t = x at h1 ⊢
  generalize P.underlying t = y at h2 ⊢
  constructor
  · cases x with
    | none => cases h1
    | some i => simp only [Bool.and_eq_true, beq_iff_eq] at h1; exact ⟨i, rfl, h1⟩
  · cases y with
    | none => cases h2
    | some d => refine ⟨d, rfl, ?_⟩; cases d <;> cases ag <;> first | rfl | cases h2
theorem run_isAgg {t : Nat} {ag : Bool} {n by_ : Nat} (h : ty t = some (ag, n, by_)) (w : World) : (isAgg t).run P w = .ok ag w := by
  obtain ⟨_, d, hd, e⟩ := ty_ok h
  simp only [isAgg, Sem.run_bind, run_underlying hd, Result.andThen_ok]
  rw [← e]
  cases d <;> rfl
theorem run_sizeOf {t : Nat} {ag : Bool} {n by_ : Nat} (h : ty t = some (ag, n, by_)) (w : World) : (sizeOf t).run P w = .ok n w := by
  obtain ⟨⟨i, hi, e, _⟩, _⟩ := ty_ok h
  simp [sizeOf, typeInfo, hi, e]
/-! ### an operation that gives a value -/
def Val (n : Nat) (wr : Nat → Prop) (st : St) (op : Op) (x : IV) (m' : Mem) : Prop :=
  ∀ (κ : K) (a : Act) (w : World), StRel n wr κ st a w → ∃ κ' w' v, Ev wr κ w κ' w' ∧ StRel n wr κ' ⟨st.t, m'⟩ a w' ∧ Rel κ' w' x v ∧
    ∀ (o : Oper) (K : Act → World → Prop) (Q : Exit → Act → World → Prop), o.op = op → K (a.put o.dst v) w' → o.wp P a w K Q
theorem wp_value {o : Oper} {a : Act} {w w' : World} {v : Value} {K : Act → World → Prop} {Q : Exit → Act → World → Prop} (h : (execOp a.eval o).run P w = .ok (.value v) w') (hK : K (a.put o.dst v) w') : o.wp P a w K Q := by
  unfold Oper.wp; rw [h]; exact hK
theorem wp_skip_ {o : Oper} {a : Act} {w w' : World} {K : Act → World → Prop} {Q : Exit → Act → World → Prop} (h : (execOp a.eval o).run P w = .ok .skip w') (hK : K (a.put o.dst undef) w') : o.wp P a w K Q := by
  unfold Oper.wp; rw [h]; exact hK
section
variable {n : Nat} {wr : Nat → Prop} {st : St}
theorem Val.pure {op : Op} {x : IV} (h : ∀ (κ : K) (a : Act) (w : World), StRel n wr κ st a w → ∃ v, Rel κ w x v ∧ ∀ (o : Oper), o.op = op → (execOp a.eval o).run P w = .ok (.value v) w) : Val n wr st op x st.m := by
  intro κ a w hr
  obtain ⟨v, h1, h2⟩ := h κ a w hr
  exact ⟨κ, w, v, Ev.refl _ _ _, hr, h1, fun o K Q ho hK => wp_value (h2 o ho) hK⟩
theorem val_move (x : Operand) : Val n wr st (.move x) (st.ev x) st.m :=
  Val.pure fun κ a w hr => ⟨a.eval x, hr.ev x, fun o ho => by simp [execOp, ho]⟩
theorem val_assign (x : Operand) : Val n wr st (.assign x) (st.ev x) st.m :=
  Val.pure fun κ a w hr => ⟨a.eval x, hr.ev x, fun o ho => by simp [execOp, ho]⟩
theorem val_pick {c x y : Operand} {b : Bool} (h : st.ev c = .v (.bool b)) : Val n wr st (.pick c x y) (if b then st.ev x else st.ev y) st.m :=
  Val.pure fun κ a w hr => ⟨if b then a.eval x else a.eval y, by cases b <;> exact hr.ev _, fun o ho => by
    have hc := hr.ev c
    rw [h] at hc; simp only [Rel] at hc
    simp [execOp, ho, hc, asBool]⟩
/-! integers, strings, truths -/
def ibin (op : BinOp) (k : IntKind) (a b : Int) : Option Value := match op with
  | .add => some (.int k (k.wrap (a + b)))
  | .sub => some (.int k (k.wrap (a - b)))
  | .mul => some (.int k (k.wrap (a * b)))
  | .quo => if b = 0 then none else some (.int k (k.wrap (a.tdiv b)))
  | .rem => if b = 0 then none else some (.int k (a.tmod b))
  | .eql => some (.bool (decide (a = b)))
  | .neq => some (.bool (!decide (a = b)))
  | .lss => some (.bool (decide (a < b)))
  | .leq => some (.bool (decide (a ≤ b)))
  | .gtr => some (.bool (decide (b < a)))
  | .geq => some (.bool (decide (b ≤ a)))
  | _ => none
theorem ibin_run {op : BinOp} {k : IntKind} {a b : Int} {v : Value} (h : ibin op k a b = some v) (t : TypeId) (w : World) : (binOp op t (.int k a) (.int k b)).run P w = .ok v w := by
  cases op <;> simp only [ibin] at h <;> first
    | (cases h; simp [binOp, Op.intArith, Op.intCmp]; done)
    | (split at h <;> first | (cases h; done) | (rename_i hb; cases h; simp [binOp, Op.intDiv, hb]; done))
    | (cases h; simp [binOp, Op.intCmp]; rw [Bool.eq_iff_iff]; simp; done)
    | cases h
def bytesLt : List UInt8 → List UInt8 → Bool := Op.bytesLess
def sbin (op : BinOp) (a b : ByteArray) : Option Value := match op with
  | .add => if a.size + b.size ≤ 9223372036854775807 then some (.string (a ++ b)) else none
  | .eql => some (.bool (decide (a = b)))
  | .neq => some (.bool (!decide (a = b)))
  | .leq => some (.bool (bytesLt a.toList b.toList || decide (a = b)))
  | _ => none
theorem toList_loop (s : ByteArray) : ∀ (k i : Nat) (r : List UInt8), s.size - i = k → ByteArray.toList.loop s i r = r.reverse ++ s.data.toList.drop i
  | 0, i, r, h => by
    unfold ByteArray.toList.loop
    have hd : s.data.toList.drop i = [] := List.drop_eq_nil_of_le (by have : s.data.toList.length = s.size := by rw [Array.length_toList]; rfl
                                                                      omega)
    rw [if_neg (by omega), hd, List.append_nil]
  | k + 1, i, r, h => by
    unfold ByteArray.toList.loop
    have hl : s.data.toList.length = s.size := by rw [Array.length_toList]; rfl
    have hd : s.data.toList.drop i = s.get! i :: s.data.toList.drop (i + 1) := by
      rw [List.drop_eq_getElem_cons (by omega)]
      congr 1
      show _ = s.data[i]!
      rw [getElem!_pos s.data i (by have : s.data.size = s.size := rfl; omega)]
      simp
    rw [if_pos (by omega), toList_loop s k (i + 1) _ (by omega), hd]
    simp
theorem toList_eq (s : ByteArray) : s.toList = s.data.toList := by
  unfold ByteArray.toList
  rw [toList_loop s s.size 0 [] (by omega)]
  simp
theorem beq_toList (a b : ByteArray) : (a.toList == b.toList) = decide (a = b) := by
  rw [toList_eq, toList_eq, Bool.eq_iff_iff]
  simp only [beq_iff_eq, decide_eq_true_eq]
  constructor
  · intro h
    cases a; cases b
    simp only at h
    congr 1
    exact Array.toList_inj.1 h
  · intro h; rw [h]
theorem sbin_add {a b : ByteArray} {v : Value} (h : sbin .add a b = some v) (t : TypeId) (w : World) : (binOp .add t (.string a) (.string b)).run P w = .ok v w := by
  simp only [sbin] at h
  by_cases hb : a.size + b.size ≤ 9223372036854775807
  · rw [if_pos hb] at h
    have e := Option.some.inj h
    have hn : ¬ (((a.size + b.size : Nat) : Int) > IntKind.i64.max) := by
      have : IntKind.i64.max = 9223372036854775807 := by decide
      omega
    subst e
    simp only [binOp, Op.stringOp]
    rw [if_neg hn]
    rfl
  · rw [if_neg hb] at h; cases h
theorem sbin_run {op : BinOp} {a b : ByteArray} {v : Value} (h : sbin op a b = some v) (t : TypeId) (w : World) : (binOp op t (.string a) (.string b)).run P w = .ok v w := by
  cases op <;> first
    | exact sbin_add h t w
    | (simp only [sbin] at h; cases h; simp [binOp, Op.stringOp, beq_toList, bytesLt]; done)
    | (simp only [sbin] at h; cases h; done)
end
end Go.Proofs.Ytphjldhdnmoolaa.A
/- Words: values out of values. -/
namespace Go.Proofs.Ytphjldhdnmoolaa.A
open Go
theorem foldl_splice : ∀ (c : List Value) (k off : Nat) (A : Array Value), off + k + c.length ≤ A.size →
    ((c.zipIdx k).foldl (fun cs (x : Value × Nat) => cs.setIfInBounds (off + x.2) x.1) A).toList = A.toList.take (off + k) ++ c ++ A.toList.drop (off + k + c.length)
  | [], k, off, A, h => by simp
  | x :: c, k, off, A, h => by
    simp only [List.length_cons] at h
    simp only [List.zipIdx_cons, List.foldl_cons]
    rw [foldl_splice c (k + 1) off _ (by rw [Array.size_setIfInBounds]; omega)]
    rw [Array.toList_setIfInBounds, List.take_set, List.drop_set_of_lt (by omega)]
    have hl : off + k < A.toList.length := by rw [Array.length_toList]; omega
    rw [show off + (k + 1) = off + k + 1 by omega, List.take_succ_eq_append_getElem hl, List.set_append_right _ _ (by simp; omega)]
    simp only [List.length_take, List.length_cons]
    rw [show off + k - min (off + k) A.toList.length = 0 by omega]
    simp [show off + k + 1 + c.length = off + k + (c.length + 1) by omega]
def splice (l : List IV) (off : Nat) (c : List IV) : List IV := l.take off ++ c ++ l.drop (off + c.length)
theorem splice_rel {κ : K} {w : World} {l c : List IV} {vs cs : List Value} (h : RelL κ w l vs) (hc : RelL κ w c cs) (off : Nat) : RelL κ w (splice l off c) (vs.take off ++ cs ++ vs.drop (off + cs.length)) := by
  unfold splice
  rw [RelL.length hc]
  exact ((h.take off).append hc).append (h.drop _)
def fillI (pl : Nat → Option (Nat × Nat)) (l : List IV) : List (Nat × IV) → Option (List IV)
  | [] => some l
  | (i, x) :: rest =>
    match pl i, x.cells false with
    | some (off, size), some c => if c.length = size ∧ off + size ≤ l.length then fillI pl (splice l off c) rest else none
    | _, _ => none
inductive RelP (κ : K) (w : World) : List (Nat × IV) → List (Nat × Value) → Prop
  | nil : RelP κ w [] []
  | cons {i : Nat} {x : IV} {v : Value} {l : List (Nat × IV)} {l' : List (Nat × Value)} : Rel κ w x v → RelP κ w l l' → RelP κ w ((i, x) :: l) ((i, v) :: l')
theorem fill_rel {κ : K} {w : World} {pl : Nat → Option (Nat × Nat)} : ∀ {ps : List (Nat × IV)} {qs : List (Nat × Value)} {l l' : List IV} {A : Array Value}, RelP κ w ps qs → RelL κ w l A.toList → fillI pl l ps = some l' → ∃ B, Instr.fill pl A qs = some B ∧ RelL κ w l' B.toList := by
  intro ps
  induction ps with
  | nil =>
    intro qs l l' A hp hl h
    cases hp
    simp only [fillI, Option.some.injEq] at h
    subst h
    exact ⟨A, rfl, hl⟩
  | cons p ps ih =>
    intro qs l l' A hp hl h
    obtain ⟨i, x⟩ := p
    cases hp with
    | cons hx hp =>
      rename_i v qs'
      simp only [fillI] at h
      split at h
      · rename_i off size c e1 e2
        split at h
        · rename_i hc
          have hcr := cells_rel e2 hx
          have hsz : v.cells.size = size := by rw [← Array.length_toList, RelL.length hcr]; exact hc.1
          have hA : A.size = l.length := by rw [← Array.length_toList, RelL.length hl]
          have hf := foldl_splice v.cells.toList 0 off A (by rw [Array.length_toList]; omega)
          have hs := splice_rel hl hcr off
          obtain ⟨B, hB, hr⟩ := ih (A := v.cells.zipIdx.foldl (fun cs (x : Value × Nat) => cs.setIfInBounds (off + x.2) x.1) A) hp (by
            rw [← Array.foldl_toList, Array.toList_zipIdx, hf]; exact hs) h
          refine ⟨B, ?_, hr⟩
          simp only [Instr.fill, e1]
          rw [if_neg (by simp; omega)]
          exact hB
        · cases h
      · cases h
/-! types built: zero cells, places -/
def Z : Value := .int .i64 0
def zStr : Value := .string ByteArray.empty
def nilS : Value := .slice none 0 0
def at1 (n : Nat) : Nat → Option (Nat × Nat) := fun i => ((Array.range n).map fun i => (i, 1))[i]?
def bld (t : Nat) : Option (List Value × (Nat → Option (Nat × Nat))) := match t with
  | 27 => some ([zStr, nilS, nilS, nilS, nilS], fun i => (#[(0, 1), (1, 1), (2, 1), (3, 1), (4, 1)] : Array (Nat × Nat))[i]?)
  | 31 => some ([Z, Z, Z, .bool false], fun i => (#[(0, 1), (1, 1), (2, 1), (3, 1)] : Array (Nat × Nat))[i]?)
  | 50 => some (List.replicate 61 Z, fun i => (#[(0, 1), (1, 60)] : Array (Nat × Nat))[i]?)
  | 60 => some ([Z, zStr, Z], fun i => (#[(0, 1), (1, 1), (2, 1)] : Array (Nat × Nat))[i]?)
  | 91 => some ([nilS, Z, Z], fun i => (#[(0, 1), (1, 1), (2, 1)] : Array (Nat × Nat))[i]?)
  | 95 => some ([zStr, Z], fun i => (#[(0, 1), (1, 1)] : Array (Nat × Nat))[i]?)
  | 99 => some ([Z, Z, zStr, nilS, Z], fun i => (#[(0, 1), (1, 1), (2, 1), (3, 1), (4, 1)] : Array (Nat × Nat))[i]?)
  | 104 => some ([Z, zStr, nilS, Z, nilS, nilS, Z], fun i => (#[(0, 1), (1, 1), (2, 1), (3, 1), (4, 1), (5, 1), (6, 1)] : Array (Nat × Nat))[i]?)
  | 111 => some ([.map none, .map none, .pointer none, .bool false, Z, Z, Z, .bool false], fun i => (#[(0, 1), (1, 1), (2, 1), (3, 1), (4, 4)] : Array (Nat × Nat))[i]?)
  | 118 => some (List.replicate 61 Z ++ [.map none, .nilIface], fun i => (#[(0, 61), (61, 1), (62, 1)] : Array (Nat × Nat))[i]?)
  | 124 => some ([Z, Z], fun i => (#[(0, 1), (1, 1)] : Array (Nat × Nat))[i]?)
  | 68 => some (List.replicate 13 zStr, fun i => some (i * 1, 1))
  | 71 => some (List.replicate 6 zStr, fun i => some (i * 1, 1))
  | _ => none
theorem bld_ok {t : Nat} {z : List Value} {pl : Nat → Option (Nat × Nat)} (h : bld t = some (z, pl)) : ∀ l, P.built t l = Instr.fill pl z.toArray l := by
  unfold bld at h
  split at h <;> first | (cases h; done) | skip
  all_goals
    have e := Option.some.inj h
    cases e
    intro l
    kernel_rfl
end Go.Proofs.Ytphjldhdnmoolaa.A
/- Words: values out of values, addresses, what is read. -/
namespace Go.Proofs.Ytphjldhdnmoolaa.A
open Go
theorem add_at (b off j : Nat) : (⟨b, off, none⟩ : Addr).add j = ⟨b, off + j, none⟩ := by unfold Addr.add; split <;> simp_all
section
variable {n : Nat} {wr : Nat → Prop} {st : St}
theorem relP_map {κ : K} {w : World} {a : Act} (h : ∀ x, Rel κ w (st.ev x) (a.eval x)) : ∀ ps : List (Nat × Operand), RelP κ w (ps.map fun p => (p.1, st.ev p.2)) (ps.map fun p => (p.1, a.eval p.2))
  | [] => .nil
  | p :: ps => .cons (h p.2) (relP_map h ps)
theorem val_build {t : TypeId} {parts : Array (Nat × Operand)} {z : List Value} {pl : Nat → Option (Nat × Nat)} {l' : List IV} (hb : bld t = some (z, pl)) (hf : fillI pl (z.map ivc) (parts.toList.map fun p => (p.1, st.ev p.2)) = some l') : Val n wr st (.build t parts) (.agg l') st.m :=
  Val.pure fun κ a w hr => by
    obtain ⟨B, h1, h2⟩ := fill_rel (relP_map hr.ev parts.toList) (map_rel (ivc_rel κ w) z : RelL κ w (z.map ivc) z.toArray.toList) hf
    refine ⟨.agg B, by simp only [Rel]; exact ⟨B, rfl, h2⟩, fun o ho => ?_⟩
    have hr := run_build (P := P) w t (parts.map fun p => (p.1, a.eval p.2)) B (by rw [bld_ok hb, Array.toList_map]; exact h1)
    simp [execOp, ho, hr]
/-! slices -/
def selTab : List (Nat × Nat) := [(23, 9), (24, 99), (25, 104), (37, 3), (56, 60), (92, 95), (121, 5)]
def sel (t : Nat) : Option Nat := match t with
  | 23 => some 9
  | 24 => some 99
  | 25 => some 104
  | 37 => some 3
  | 56 => some 60
  | 92 => some 95
  | 121 => some 5
  | _ => none
noncomputable def selOK (x : Nat × Nat) : Bool := (match P.underlying x.1 with | some (.slice e) => e == x.2 | _ => false) && (match P.info? x.2 with | some i => (match i.zero with | some z => z.cells.size == i.size | none => false) | none => false)
theorem selTab_ok : selTab.all selOK = true := by kernel_rfl
theorem sel_mem {t x : Nat} (h : sel t = some x) : (t, x) ∈ selTab := by
  unfold sel at h
  split at h <;> first | (cases h; simp [selTab]; done) | cases h
theorem sel_ok {t e : Nat} (h : sel t = some e) : P.underlying t = some (.slice e) ∧ ∃ i z, P.info? e = some i ∧ i.zero = some z ∧ z.cells.size = i.size := by
  have h1 := List.all_eq_true.1 selTab_ok _ (sel_mem h)
  simp only [selOK, Bool.and_eq_true] at h1
  obtain ⟨h1, h2⟩ := h1
  generalize P.info? e = x at h2 ⊢
  generalize P.underlying t = y at h1 ⊢
  constructor
  · cases y with
    | none => cases h1
    | some d => cases d <;> first | (simp at h1; done) | (simp only [beq_iff_eq] at h1; rw [h1])
  · cases x with
    | none => cases h2
    | some i =>
      simp only at h2
      cases hz : i.zero with
      | none => rw [hz] at h2; cases h2
      | some z => rw [hz] at h2; exact ⟨i, z, rfl, hz, by simpa using h2⟩
theorem anyL {κ : K} {w : World} : ∀ vs : List Value, RelL κ w (List.replicate vs.length .any) vs
  | [] => by simp only [List.length_nil, List.replicate_zero, RelL]
  | v :: vs => by simp only [List.length_cons, List.replicate_succ, RelL]; exact ⟨v, vs, rfl, by simp only [Rel], anyL vs⟩
theorem val_buildSlice {t e len sz by_ : Nat} {ag : Bool} {parts : Array (Nat × Operand)} {l' : List IV} (hs : sel t = some e) (he : ty e = some (ag, sz, by_)) (h24 : len * sz ≤ 16777216)
    (hf : fillI (fun i => some (i * sz, sz)) (List.replicate (len * sz) .any) (parts.toList.map fun p => (p.1, st.ev p.2)) = some l') (hl : l'.length = len * sz) : Val n wr st (.buildSlice t len parts) (.sl .full len l') st.m := by
  intro κ a w hr
  obtain ⟨hu, i, z, hi, hz, _⟩ := sel_ok hs
  obtain ⟨⟨i', hi', hsz, _⟩, _⟩ := ty_ok he
  rw [hi] at hi'; cases hi'
  let A : Array Value := (Array.range (len * sz)).map (fun j => z.cells[j % z.cells.size]!)
  have hA : A.toList.length = len * sz := by simp [A]
  obtain ⟨B, h1, h2⟩ := fill_rel (relP_map hr.ev parts.toList) (show RelL κ w (List.replicate (len * sz) .any) A.toList from hA ▸ anyL A.toList) hf
  have hB : B.size = len * sz := by rw [← Array.length_toList, RelL.length h2, hl]
  have hg := grow_alloc hr.inv B e B.size (Nat.le_refl _)
  refine ⟨_, _, .slice (some ⟨w.heap.size, 0, none⟩) len len, hg.ev hr.inv, (by cases st; exact hr.grow hg), ?_, fun o K Q ho hK => ?_⟩
  · simp only [Rel]
    refine ⟨_, len, rfl, Nat.le_refl _, rfl, .inr ⟨w.heap.size, 0, rfl, ?_⟩⟩
    exact see_cells hr.inv B.size (by rw [hB, hl]; exact Nat.le_refl _) (Nat.le_refl _) (by rw [hl, ← hB, ← Array.length_toList, List.take_length]; exact h2)
  · refine wp_value ?_ hK
    have hfill : ∀ zz : Array Value, (len * sz = 0 ∨ zz = z.cells) → Instr.fill (fun i => some (i * sz, sz)) (Array.map (fun x => zz[x % zz.size]!) (Array.range (len * sz))) (List.map (fun p => (p.fst, a.eval p.snd)) parts.toList) = some B := by
      rintro zz (h0 | rfl)
      · have e0 : (Array.map (fun x => zz[x % zz.size]!) (Array.range (len * sz))) = A := by simp only [A, h0]; simp
        rw [e0]; exact h1
      · exact h1
    simp only [execOp, ho, Instr.buildSlice, Sem.run_bind, run_underlying hu, Result.andThen_ok, run_sizeOf he]
    rw [if_neg (by omega)]
    rw [show (parts.map fun (x : Nat × Operand) => (x.1, a.eval x.2)).toList = parts.toList.map fun p => (p.1, a.eval p.2) from Array.toList_map]
    by_cases h0 : len * sz = 0
    · rw [if_pos h0]
      simp only [Sem.run_bind, Sem.run_pure, Result.andThen_ok, hfill #[] (.inl h0)]
      simp [newRow]
    · rw [if_neg h0]
      have hzr : (zeroValue e).run P w = .ok z w := by simp [zeroValue, typeInfo, hi, hz]
      simp only [Sem.run_bind, Sem.run_pure, Result.andThen_ok, hzr, hfill z.cells (.inr rfl)]
      simp [newRow]
/-! what is read -/
def ldv (ag : Bool) (sz : Nat) (l : List IV) : Option IV := match ag with
  | true => if sz ≤ l.length then some (.agg ((l.take sz).map IV.sh)) else none
  | false => l.head?
theorem ldv_run {κ : K} {w : World} {t sz by_ : Nat} {ag : Bool} {l : List IV} {x : IV} {vs : List Value} {b off : Nat} (ht : ty t = some (ag, sz, by_)) (hl : ldv ag sz l = some x) (hr : RelL κ w l vs) (hc : ∀ j v, vs[j]? = some v → w.cell? ⟨b, off + j, none⟩ = some v) :
    ∃ v, (loadVar t ⟨b, off, none⟩).run P w = .ok v w ∧ Rel κ w x v := by
  cases ag with
  | true =>
    simp only [ldv] at hl
    split at hl
    · rename_i hle
      cases hl
      have hlen : (vs.take sz).length = sz := by rw [List.length_take, RelL.length hr]; omega
      have hcl := run_loadCells_list (P := P) w ⟨b, off, none⟩ (vs.take sz) (fun j v hv => by
        rw [add_at]
        rw [List.getElem?_take] at hv
        split at hv
        · exact hc j v hv
        · cases hv)
      rw [hlen] at hcl
      refine ⟨.agg (vs.take sz).toArray, ?_, ?_⟩
      · simp [loadVar, run_isAgg ht, run_sizeOf ht, hcl]
      · simp only [Rel]; exact ⟨_, rfl, shL_rel (by simpa using hr.take sz)⟩
    · cases hl
  | false =>
    cases l with
    | nil => cases hl
    | cons y l =>
      simp only [ldv, List.head?_cons, Option.some.injEq] at hl
      subst hl
      simp only [RelL] at hr
      obtain ⟨v, vs', rfl, hx, _⟩ := hr
      refine ⟨v, ?_, hx⟩
      have := hc 0 v rfl
      simp only [Nat.add_zero] at this
      simp [loadVar, run_isAgg ht, this]
def Mem.at_ (m : Mem) (o off : Nat) : Option (List IV) := match m.objs[o]? with
  | some (.cells l) => some (l.drop off)
  | _ => none
def ldc (st : St) : IV → Option (List IV)
  | .ref l => some l
  | .ptr o off => st.m.at_ o off
  | _ => none
theorem ldc_cells {κ : K} {a : Act} {w : World} (hr : StRel n wr κ st a w) {x : IV} {y : Value} {l : List IV} (hx : Rel κ w x y) (hl : ldc st x = some l) : ∃ b off vs, y = .pointer (some ⟨b, off, none⟩) ∧ RelL κ w l vs ∧ ∀ j v, vs[j]? = some v → w.cell? ⟨b, off + j, none⟩ = some v := by
  cases x with
  | ref l' =>
    simp only [ldc, Option.some.injEq] at hl; subst hl
    simp only [Rel] at hx
    obtain ⟨b, off, e, h⟩ := hx
    obtain ⟨vs, h1, h2⟩ := h.vals
    exact ⟨b, off, vs, e, h1, h2⟩
  | ptr o off =>
    simp only [ldc, Mem.at_] at hl
    simp only [Rel] at hx
    obtain ⟨b, hb, e⟩ := hx
    split at hl
    · rename_i l' ho
      cases hl
      obtain ⟨arr, T, h1, h2⟩ := hr.inv.obj o b _ hb ho
      refine ⟨b, off, arr.toList.drop off, e, h2.drop off, fun j v hv => ?_⟩
      rw [List.getElem?_drop] at hv
      rw [cell_of_row w b (off + j) arr T (0, 0) h1]
      simpa using hv
    · cases hl
  | _ => cases hl
theorem val_load {t sz by_ : Nat} {ag : Bool} {x : Operand} {l : List IV} {y : IV} (ht : ty t = some (ag, sz, by_)) (hc : ldc st (st.ev x) = some l) (hl : ldv ag sz l = some y) : Val n wr st (.load t x) y st.m :=
  Val.pure fun κ a w hr => by
    obtain ⟨b, off, vs, e, h1, h2⟩ := ldc_cells hr (hr.ev x) hc
    obtain ⟨v, h3, h4⟩ := ldv_run ht hl h1 h2
    exact ⟨v, h4, fun o ho => by simp [execOp, ho, e, Instr.loadAt, Instr.sureAddr, h3]⟩
/-! addresses -/
def fldTab : List (Nat × Nat × Nat) := [(27, 0, 0), (27, 1, 1), (27, 2, 2), (27, 3, 3), (27, 4, 4), (31, 0, 0), (31, 1, 1), (31, 2, 2), (31, 3, 3), (39, 0, 0), (39, 1, 1), (39, 2, 2), (82, 0, 0), (82, 1, 1), (82, 2, 2), (50, 0, 0), (50, 1, 1), (60, 0, 0), (60, 1, 1), (60, 2, 2), (91, 0, 0), (91, 1, 1), (91, 2, 2), (95, 0, 0), (95, 1, 1), (99, 0, 0), (99, 1, 1), (99, 2, 2), (99, 3, 3), (99, 4, 4), (104, 0, 0), (104, 1, 1), (104, 2, 2), (104, 3, 3), (104, 4, 4), (104, 5, 5), (104, 6, 6), (111, 0, 0), (111, 1, 1), (111, 2, 2), (111, 3, 3), (111, 4, 4), (118, 0, 0), (118, 1, 61), (118, 2, 62), (124, 0, 0), (124, 1, 1)]
def fld (t f : Nat) : Option Nat := match t, f with
  | 27, 0 => some 0
  | 27, 1 => some 1
  | 27, 2 => some 2
  | 27, 3 => some 3
  | 27, 4 => some 4
  | 31, 0 => some 0
  | 31, 1 => some 1
  | 31, 2 => some 2
  | 31, 3 => some 3
  | 39, 0 => some 0
  | 39, 1 => some 1
  | 39, 2 => some 2
  | 82, 0 => some 0
  | 82, 1 => some 1
  | 82, 2 => some 2
  | 50, 0 => some 0
  | 50, 1 => some 1
  | 60, 0 => some 0
  | 60, 1 => some 1
  | 60, 2 => some 2
  | 91, 0 => some 0
  | 91, 1 => some 1
  | 91, 2 => some 2
  | 95, 0 => some 0
  | 95, 1 => some 1
  | 99, 0 => some 0
  | 99, 1 => some 1
  | 99, 2 => some 2
  | 99, 3 => some 3
  | 99, 4 => some 4
  | 104, 0 => some 0
  | 104, 1 => some 1
  | 104, 2 => some 2
  | 104, 3 => some 3
  | 104, 4 => some 4
  | 104, 5 => some 5
  | 104, 6 => some 6
  | 111, 0 => some 0
  | 111, 1 => some 1
  | 111, 2 => some 2
  | 111, 3 => some 3
  | 111, 4 => some 4
  | 118, 0 => some 0
  | 118, 1 => some 61
  | 118, 2 => some 62
  | 124, 0 => some 0
  | 124, 1 => some 1
  | _, _ => none
noncomputable def fldOK (x : Nat × Nat × Nat) : Bool := match P.underlying x.1 with
  | some (.struct fs) => match fs[x.2.1]? with
    | some fd => fd.offset == x.2.2 && (match P.info? fd.type with | some i => i.size != 0 | none => false)
    | none => false
  | _ => false
theorem fldTab_ok : fldTab.all fldOK = true := by kernel_rfl
theorem fld_mem {t f x : Nat} (h : fld t f = some x) : (t, f, x) ∈ fldTab := by
  unfold fld at h
  split at h <;> first | (cases h; simp [fldTab]; done) | cases h
set_option maxRecDepth 100000 in
theorem fld_run {t f off : Nat} (h : fld t f = some off) (b o : Nat) (w : World) : (Instr.fieldAt t (.pointer (some ⟨b, o, none⟩)) f).run P w = .ok (.pointer (some ⟨b, o + off, none⟩)) w := by
  have h1 := List.all_eq_true.1 fldTab_ok _ (fld_mem h)
  unfold fldOK at h1
  generalize hy : P.underlying t = y at h1
  cases y with
  | none => cases h1
  | some d =>
    obtain ⟨fs, rfl⟩ : ∃ fs, d = .struct fs := by
      cases d with
      | struct fs => exact ⟨fs, rfl⟩
      | _ => exact absurd h1 (by simp)
    simp only at h1
    cases hf : fs[f]? with
    | none => rw [hf] at h1; cases h1
    | some fd =>
      rw [hf] at h1
      simp only [Bool.and_eq_true, beq_iff_eq] at h1
      obtain ⟨rfl, h2⟩ := h1
      cases hi : P.info? fd.type with
      | none => rw [hi] at h2; cases h2
      | some i =>
        rw [hi] at h2
        have h3 : i.size ≠ 0 := by simpa using h2
        simp [Instr.fieldAt, run_underlying hy, hf, Instr.sureAddr, fieldPlace, sizeOf, typeInfo, hi, h3, add_at]
def IV.off (k : Nat) : IV → Option IV
  | .ref l => some (.ref (l.drop k))
  | .ptr o off => some (.ptr o (off + k))
  | _ => none
theorem off_rel {κ : K} {w : World} {k : Nat} {x x' : IV} {y : Value} (h : x.off k = some x') (hr : Rel κ w x y) : ∃ b o, y = .pointer (some ⟨b, o, none⟩) ∧ Rel κ w x' (.pointer (some ⟨b, o + k, none⟩)) := by
  cases x <;> simp only [IV.off, Option.some.injEq, reduceCtorEq] at h
  · subst h
    simp only [Rel] at *
    obtain ⟨b, o, e, hc⟩ := hr
    exact ⟨b, o, e, b, o + k, rfl, hc.drop k⟩
  · subst h
    simp only [Rel] at *
    obtain ⟨b, hb, e⟩ := hr
    exact ⟨b, _, e, b, hb, rfl⟩
theorem val_field {t f off : Nat} {x : Operand} {x' : IV} (h : fld t f = some off) (hx : (st.ev x).off off = some x') : Val n wr st (.fieldAddr t x f) x' st.m :=
  Val.pure fun κ a w hr => by
    obtain ⟨b, o, e, h1⟩ := off_rel hx (hr.ev x)
    exact ⟨_, h1, fun q hq => by simp [execOp, hq, e, fld_run h]⟩
theorem val_indexSl {t e sz by_ : Nat} {ag : Bool} {x i : Operand} {k : SK} {m : Nat} {l : List IV} {j : Int} (hs : sel t = some e) (he : ty e = some (ag, sz, by_)) (hx : st.ev x = .sl k m l) (hi : st.ev i = .v (.int .i64 j)) (h0 : 0 ≤ j) (h1 : j < m) (h2 : j.toNat * sz < l.length) :
    Val n wr st (.indexAddr t x i) (.ref (l.drop (j.toNat * sz))) st.m :=
  Val.pure fun κ a w hr => by
    have hx' := hr.ev x
    have hi' := hr.ev i
    rw [hx] at hx'; rw [hi] at hi'
    simp only [Rel] at hx' hi'
    obtain ⟨A, c, e1, _, _, h3⟩ := hx'
    rcases h3 with rfl | ⟨b, off, rfl, hc⟩
    · simp at h2
    refine ⟨.pointer (some ⟨b, off + j.toNat * sz, none⟩), by simp only [Rel]; exact ⟨b, _, rfl, hc.drop _⟩, fun o ho => ?_⟩
    simp [execOp, ho, e1, hi', Instr.indexAt, asIntOf, run_underlying (sel_ok hs).1, h0, h1, run_sizeOf he, add_at]
def arrTab : List (Nat × Nat × Nat) := [(48, 60, 3), (68, 13, 9), (71, 6, 9)]
noncomputable def arrOK (x : Nat × Nat × Nat) : Bool := match P.underlying x.1 with
  | some (.array len e) => len == x.2.1 && e == x.2.2
  | _ => false
theorem arrTab_ok : arrTab.all arrOK = true := by kernel_rfl
def arr (t : Nat) : Option (Nat × Nat) := match t with
  | 48 => some (60, 3)
  | 68 => some (13, 9)
  | 71 => some (6, 9)
  | _ => none
set_option maxRecDepth 100000 in
theorem arr_ok {t len e : Nat} (h : arr t = some (len, e)) : P.underlying t = some (.array len e) := by
  have hm : (t, len, e) ∈ arrTab := by
    unfold arr at h
    split at h <;> first | (cases h; done) | (cases h; simp [arrTab])
  have h1 := List.all_eq_true.1 arrTab_ok _ hm
  unfold arrOK at h1
  generalize P.underlying t = y at h1 ⊢
  cases y with
  | none => cases h1
  | some d =>
    cases d with
    | array l2 e2 => simp only [Bool.and_eq_true, beq_iff_eq] at h1; rw [h1.1, h1.2]
    | _ => exact absurd h1 (by simp)
theorem val_indexArr {t len e sz by_ : Nat} {ag : Bool} {x i : Operand} {x' : IV} {j : Int} (hs : arr t = some (len, e)) (he : ty e = some (ag, sz, by_)) (hi : st.ev i = .v (.int .i64 j)) (h0 : 0 ≤ j) (h1 : j < len) (hx : (st.ev x).off (j.toNat * sz) = some x') :
    Val n wr st (.indexAddr t x i) x' st.m :=
  Val.pure fun κ a w hr => by
    have hi' := hr.ev i
    rw [hi] at hi'
    simp only [Rel] at hi'
    obtain ⟨b, o, e1, h2⟩ := off_rel hx (hr.ev x)
    refine ⟨_, h2, fun q hq => ?_⟩
    simp [execOp, hq, e1, hi', Instr.indexAt, asIntOf, run_underlying (arr_ok hs), h0, h1, run_sizeOf he, add_at, Instr.sureAddr]
theorem val_nilCheck {x : Operand} {k : Nat} {x' : IV} (hx : (st.ev x).off k = some x') : Val n wr st (.nilCheck x) (st.ev x) st.m :=
  Val.pure fun κ a w hr => by
    obtain ⟨b, o, e1, _⟩ := off_rel hx (hr.ev x)
    exact ⟨a.eval x, hr.ev x, fun q hq => by simp [execOp, hq, e1]⟩
theorem val_extract {x : Operand} {i : Nat} {l : List IV} {y : IV} (hx : st.ev x = .tup l) (hy : l[i]? = some y) : Val n wr st (.extract x i) y st.m :=
  Val.pure fun κ a w hr => by
    have hx' := hr.ev x
    rw [hx] at hx'
    simp only [Rel] at hx'
    obtain ⟨vs, e, hl⟩ := hx'
    obtain ⟨v, hv, h⟩ := hl.get hy
    refine ⟨v, h, fun q hq => ?_⟩
    have hv' : vs[i]? = some v := by simpa using hv
    simp [execOp, hq, e, Instr.extract, hv']
end
end Go.Proofs.Ytphjldhdnmoolaa.A
/- Words: operators, comparisons, conversions, interfaces. -/
namespace Go.Proofs.Ytphjldhdnmoolaa.A
open Go
section
variable {n : Nat} {wr : Nat → Prop} {st : St}
theorem guard_int (op : BinOp) (t : TypeId) (x y : Operand) (k k' : IntKind) (a b : Int) (w : World) : (eqGuard op t x y (.int k a) (.int k' b)).run P w = .ok () w := by cases op <;> rfl
theorem guard_str (op : BinOp) (t : TypeId) (x y : Operand) (a b : ByteArray) (w : World) : (eqGuard op t x y (.string a) (.string b)).run P w = .ok () w := by cases op <;> rfl
theorem val_bin {op : BinOp} {t t' : TypeId} {x y : Operand} {k : IntKind} {a b : Int} {v : Value} (hx : st.ev x = .v (.int k a)) (hy : st.ev y = .v (.int k b)) (h : ibin op k a b = some v) : Val n wr st (.binOp op t x y t') (.v v) st.m :=
  Val.pure fun κ ac w hr => by
    have hx' := hr.ev x
    have hy' := hr.ev y
    rw [hx] at hx'; rw [hy] at hy'
    simp only [Rel] at hx' hy'
    exact ⟨v, by simp only [Rel], fun o ho => by simp only [execOp, ho, hx', hy', Sem.run_bind, guard_int, Result.andThen_ok, ibin_run h, Sem.run_pure]⟩
theorem val_bins {op : BinOp} {t t' : TypeId} {x y : Operand} {a b : ByteArray} {v : Value} (hx : st.ev x = .v (.string a)) (hy : st.ev y = .v (.string b)) (h : sbin op a b = some v) : Val n wr st (.binOp op t x y t') (.v v) st.m :=
  Val.pure fun κ ac w hr => by
    have hx' := hr.ev x
    have hy' := hr.ev y
    rw [hx] at hx'; rw [hy] at hy'
    simp only [Rel] at hx' hy'
    exact ⟨v, by simp only [Rel], fun o ho => by simp only [execOp, ho, hx', hy', Sem.run_bind, guard_str, Result.andThen_ok, sbin_run h, Sem.run_pure]⟩
/-! equal? -/
def ints : List IV → Option (List Int)
  | [] => some []
  | .v (.int .i64 a) :: l => (ints l).map (a :: ·)
  | _ => none
theorem ints_vals {κ : K} {w : World} : ∀ {l : List IV} {vs : List Value} {xs : List Int}, ints l = some xs → RelL κ w l vs → vs = xs.map (.int .i64 ·)
  | [], vs, xs, h, hr => by simp only [ints, Option.some.injEq] at h; subst h; simp only [RelL] at hr; exact hr
  | i :: l, vs, xs, h, hr => by
    unfold ints at h
    split at h
    · rename_i e; cases e
    · rename_i a l' e
      cases e
      obtain ⟨ys, hy, rfl⟩ := Option.map_eq_some_iff.1 h
      simp only [RelL, Rel] at hr
      obtain ⟨v, vs', rfl, rfl, hl⟩ := hr
      rw [ints_vals hy hl]; rfl
    · cases h
def info : List IV → Option (Int × Int × Int × Bool)
  | [.v (.int .i64 a), .v (.int .i64 b), .v (.int .i64 c), .v (.bool d)] => some (a, b, c, d)
  | _ => none
/-- Are values of a type equal? lit: is one of the operands a constant? -/
def eqv (t : TypeId) (lit : Bool) (x y : IV) : Option Bool := match t, x, y with
  | 4, .v (.bool a), .v (.bool b) => some (decide (a = b))
  | 43, .v .nilIface, .v .nilIface => if lit then some true else none
  | 43, .iface _ _, .v .nilIface => some false
  | 43, .v .nilIface, .iface _ _ => some false
  | 43, .iface 76 (.v (.int .i64 a)), .iface 76 (.v (.int .i64 b)) => some (decide (a = b))
  | 43, .iface 109 _, .iface 76 _ => some false
  | 109, .v (.pointer none), .v (.pointer none) => some true
  | 109, .ref _, .v (.pointer none) => some false
  | 156, .v (.pointer none), .v (.pointer none) => some true
  | 156, .ptr _ _, .v (.pointer none) => some false
  | 108, .map _, .v (.map none) => some false
  | 31, .agg l, .agg l' => match info l, info l' with
    | some a, some b => some (decide (a = b))
    | _, _ => none
  | 50, .agg l, .agg l' => match ints l, ints l' with
    | some (a :: xs), some (b :: ys) => if xs.length = 60 ∧ ys.length = 60 then some (decide (a = b ∧ xs = ys)) else none
    | _, _ => none
  | _, _, _ => none
def isLit : Operand → Bool
  | .const _ => true
  | _ => false
def pg (l : List Int) : Array Value := (l.map (Value.int .i64 ·)).toArray
theorem und3 : P.underlying 3 = some (.int .i64) := Try.underlying3
theorem und4 : P.underlying 4 = some .bool := Try.underlying4
theorem und76 : P.underlying 76 = some (.int .i64) := Try.underlying76
theorem isAgg_no {t : TypeId} {d : TypeDesc} (h : P.underlying t = some d) (hd : (match d with | .struct _ | .array _ _ => true | _ => false) = false) (w : World) : (isAgg t).run P w = .ok false w := by
  simp only [isAgg, Sem.run_bind, run_underlying h, Result.andThen_ok]
  cases d <;> first | rfl | cases hd
theorem part_one {t : TypeId} {d : TypeDesc} (h : P.underlying t = some d) (hd : (match d with | .struct _ | .array _ _ => true | _ => false) = false) (cs : Array Value) (i : Nat) (v : Value) (hv : cs[i]? = some v) (w : World) : (part t cs i).run P w = .ok v w := by
  unfold part
  rw [Sem.run_bind, isAgg_no h hd w]
  simp [hv]
theorem fields31 : P.fieldsOf 31 = #[{ name := "Mode", type := 3, offset := 0, embedded := false, tag := "", pkgPath := "", byteOffset := 0 }, { name := "Steps", type := 3, offset := 1, embedded := false, tag := "", pkgPath := "", byteOffset := 8 }, { name := "Names", type := 3, offset := 2, embedded := false, tag := "", pkgPath := "", byteOffset := 16 }, { name := "Turns", type := 4, offset := 3, embedded := false, tag := "", pkgPath := "", byteOffset := 24 }] := by kernel_rfl
theorem eq31 (w : World) (a b c : Int) (d : Bool) (a' b' c' : Int) (d' : Bool) : (Op.equalIn 10000 31 (.agg #[.int .i64 a, .int .i64 b, .int .i64 c, .bool d]) (.agg #[.int .i64 a', .int .i64 b', .int .i64 c', .bool d'])).run P w = .ok (decide ((a, b, c, d) = (a', b', c', d'))) w := by
  rw [run_equalIn_struct w 9999 31 _ _ (by rw [fields31]; exact Try.underlying31) (by kernel_rfl), fields31]
  have p0 := part_one und3 rfl #[.int .i64 a, .int .i64 b, .int .i64 c, .bool d] 0 (.int .i64 a) rfl
  have p1 := part_one und3 rfl #[.int .i64 a, .int .i64 b, .int .i64 c, .bool d] 1 (.int .i64 b) rfl
  have p2 := part_one und3 rfl #[.int .i64 a, .int .i64 b, .int .i64 c, .bool d] 2 (.int .i64 c) rfl
  have p3 := part_one und4 rfl #[.int .i64 a, .int .i64 b, .int .i64 c, .bool d] 3 (.bool d) rfl
  have q0 := part_one und3 rfl #[.int .i64 a', .int .i64 b', .int .i64 c', .bool d'] 0 (.int .i64 a') rfl
  have q1 := part_one und3 rfl #[.int .i64 a', .int .i64 b', .int .i64 c', .bool d'] 1 (.int .i64 b') rfl
  have q2 := part_one und3 rfl #[.int .i64 a', .int .i64 b', .int .i64 c', .bool d'] 2 (.int .i64 c') rfl
  have q3 := part_one und4 rfl #[.int .i64 a', .int .i64 b', .int .i64 c', .bool d'] 3 (.bool d') rfl
  have i3 := fun (a b : Int) (w : World) => run_equalIn_int (P := P) w 9998 3 .i64 .i64 a b und3
  have b4 := fun (a b : Bool) (w : World) => run_equalIn_bool' (P := P) w 9998 4 a b und4
  simp only [Op.eqFields, Sem.run_bind]
  rw [if_pos (by decide)]
  simp only [Op.eqFields, Sem.run_bind, p0, q0, Result.andThen_ok, i3]
  by_cases h0 : ¬ a = a'
  · simp [h0]
  obtain rfl := Decidable.not_not.1 h0
  simp only [beq_self_eq_true, Bool.not_true, Bool.false_eq_true, if_false, true_and]
  rw [if_pos (by decide)]
  simp only [Sem.run_bind, p1, q1, Result.andThen_ok, i3]
  by_cases h1 : ¬ b = b'
  · simp [h1]
  obtain rfl := Decidable.not_not.1 h1
  simp only [beq_self_eq_true, Bool.not_true, Bool.false_eq_true, if_false, true_and]
  rw [if_pos (by decide)]
  simp only [Sem.run_bind, p2, q2, Result.andThen_ok, i3]
  by_cases h2 : ¬ c = c'
  · simp [h2]
  obtain rfl := Decidable.not_not.1 h2
  simp only [beq_self_eq_true, Bool.not_true, Bool.false_eq_true, if_false, true_and]
  rw [if_pos (by decide)]
  simp only [Sem.run_bind, p3, q3, Result.andThen_ok, b4]
  cases d <;> cases d' <;> simp
theorem pg_at (l : List Int) (i : Nat) : (pg l)[i]? = (l[i]?).map (Value.int .i64) := by simp [pg]
theorem fields50 : P.fieldsOf 50 = #[{ name := "Lsn", type := 3, offset := 0, embedded := false, tag := "", pkgPath := "", byteOffset := 0 }, { name := "Cells", type := 48, offset := 1, embedded := false, tag := "", pkgPath := "", byteOffset := 8 }] := by kernel_rfl
theorem run_size3 (w : World) : (sizeOf 3).run P w = .ok 1 w := run_sizeOf (t := 3) rfl w
theorem run_size48 (w : World) : (sizeOf 48).run P w = .ok 60 w := run_sizeOf (t := 48) rfl w
theorem run_part3 (w : World) (cs : Array Value) (off : Nat) (v : Value) (h : cs[off]? = some v) : (part 3 cs off).run P w = .ok v w := by
  have : (isAgg 3).run P w = .ok false w := by
    unfold isAgg
    rw [Sem.run_bind, run_underlying Try.underlying3 w]
    rfl
  simp [part, Sem.run_bind, this, h]
theorem run_part48 (w : World) (cs : Array Value) (off : Nat) : (part 48 cs off).run P w = .ok (.agg (cs.extract off (off + 60))) w := by
  have : (isAgg 48).run P w = .ok true w := by
    unfold isAgg
    rw [Sem.run_bind, run_underlying Try.underlying48 w]
    rfl
  simp [part, Sem.run_bind, this, run_size48]
theorem run_eq48 (d : Nat) (w : World) (a b : List Int) (ha : a.length = 60) (hb : b.length = 60) : (Op.equalIn (d + 2) 48 (.agg (pg a)) (.agg (pg b))).run P w = .ok (decide (a = b)) w := by
  have hE : ∀ (x y : Int) (w : World), (Op.equalIn (d + 1) 3 (.int .i64 x) (.int .i64 y)).run P w = .ok (x == y) w := fun x y w => run_equalIn_int w d 3 .i64 .i64 x y Try.underlying3
  rw [Op.equalIn]
  revert hE
  generalize Op.equalIn (d + 1) = E
  intro hE
  simp only [Sem.run_bind, run_underlying Try.underlying48, Result.andThen_ok, run_size3, Std.Legacy.Range.forIn_eq_forIn_range', Std.Legacy.Range.size, Nat.sub_zero, Nat.add_one_sub_one, Nat.div_one, Nat.mul_one]
  have key : ∀ (l : List Nat), (∀ i ∈ l, i < 60) → ∀ w : World, (forIn l ((none, ()) : Option Bool × Unit) fun i __s => do
      let x ← part 3 (pg a) i
      let y ← part 3 (pg b) i
      let r ← E 3 x y
      if (!r) = true then pure (ForInStep.done (some false, ())) else do
        pure PUnit.unit
        pure (ForInStep.yield (none, ()))).run P w = .ok (if ∀ i ∈ l, a[i]? = b[i]? then (none, ()) else (some false, ())) w := by
    intro l
    induction l with
    | nil => intro _ w; simp
    | cons i l ih =>
      intro hl w
      have hi := hl i List.mem_cons_self
      have h1 : (pg a)[i]? = some (.int .i64 a[i]) := by rw [pg_at, List.getElem?_eq_getElem (by omega)]; rfl
      have h2 : (pg b)[i]? = some (.int .i64 b[i]) := by rw [pg_at, List.getElem?_eq_getElem (by omega)]; rfl
      simp only [List.forIn_cons, Sem.run_bind, run_part3 _ _ _ _ h1, run_part3 _ _ _ _ h2, Result.andThen_ok, hE]
      by_cases he : a[i] = b[i]
      · rw [show (a[i] == b[i]) = true by simp [he]]
        simp only [Bool.not_true, Bool.false_eq_true, if_false, Sem.run_bind, Sem.run_pure, Result.andThen_ok]
        rw [ih (fun j hj => hl j (List.mem_cons_of_mem _ hj)) w]
        have : (∀ j ∈ i :: l, a[j]? = b[j]?) ↔ ∀ j ∈ l, a[j]? = b[j]? := by
          refine ⟨fun h j hj => h j (List.mem_cons_of_mem _ hj), fun h j hj => ?_⟩
          rcases List.mem_cons.1 hj with rfl | hj
          · rw [List.getElem?_eq_getElem (by omega), List.getElem?_eq_getElem (by omega), he]
          · exact h j hj
        simp only [this]
      · rw [show (a[i] == b[i]) = false by simp [he]]
        simp only [Bool.not_false, if_true, Sem.run_pure, Result.andThen_ok]
        rw [if_neg]
        intro h
        have := h i List.mem_cons_self
        rw [List.getElem?_eq_getElem (by omega), List.getElem?_eq_getElem (by omega)] at this
        exact he (Option.some.inj this)
  have h := key (List.range' 0 60) (fun i hi => by simp at hi; omega) w
  have hab : (∀ i ∈ List.range' 0 60, a[i]? = b[i]?) ↔ a = b := by
    refine ⟨fun h => List.ext_getElem? (fun i => ?_), fun h => by intros; rw [h]⟩
    by_cases hi : i < 60
    · exact h i (by simp; omega)
    · rw [List.getElem?_eq_none (by omega), List.getElem?_eq_none (by omega)]
  simp only [hab] at h
  rw [h]
  by_cases he : a = b
  · simp [he]
  · simp [he]
theorem pg_extract (x : Int) (l : List Int) : (pg (x :: l)).extract 1 (1 + l.length) = pg l := by
  apply Array.ext_getElem?
  intro i
  simp only [pg, Array.getElem?_extract]
  rw [show 1 + i = i + 1 by omega]
  simp
  intro h
  rw [List.getElem?_eq_none (by omega)]
  rfl
theorem run_eq50 (w : World) (x y : Int) (a b : List Int) (ha : a.length = 60) (hb : b.length = 60) : (Op.equalIn 10000 50 (.agg (pg (x :: a))) (.agg (pg (y :: b)))).run P w = .ok (decide (x = y ∧ a = b)) w := by
  rw [run_equalIn_struct w 9999 50 _ _ (by rw [fields50]; exact Try.underlying50) (by kernel_rfl), fields50]
  have e1 := pg_extract x a
  have e2 := pg_extract y b
  rw [ha] at e1
  rw [hb] at e2
  simp only [Op.eqFields, Sem.run_bind]
  rw [if_pos (by decide)]
  simp only [Op.eqFields, Sem.run_bind, run_part3 _ (pg (x :: a)) 0 (.int .i64 x) (by simp [pg]), run_part3 _ (pg (y :: b)) 0 (.int .i64 y) (by simp [pg]), run_part48, e1, e2, Result.andThen_ok, run_equalIn_int w 9998 3 .i64 .i64 x y Try.underlying3, run_eq48 9997 w a b ha hb]
  by_cases h : x = y
  · subst h
    simp only [beq_self_eq_true, Bool.not_true, Bool.false_eq_true, if_false, true_and]
    rw [if_pos (by decide)]
    simp only [Sem.run_bind, run_part48, e1, e2, Result.andThen_ok, run_eq48 9997 w a b ha hb]
    by_cases he : a = b
    · simp [he]
    · simp [he]
  · simp [h]
theorem info_vals {κ : K} {w : World} {l : List IV} {vs : List Value} {a b c : Int} {d : Bool} (h : info l = some (a, b, c, d)) (hr : RelL κ w l vs) : vs = [.int .i64 a, .int .i64 b, .int .i64 c, .bool d] := by
  unfold info at h
  split at h
  · cases h
    simp only [RelL, Rel] at hr
    obtain ⟨v, vs', rfl, rfl, v1, vs1, rfl, rfl, v2, vs2, rfl, rfl, v3, vs3, rfl, rfl, rfl⟩ := hr
    rfl
  · cases h
def eqop (neg : Bool) : BinOp := if neg then .neq else .eql
theorem eq_of (neg : Bool) (t : TypeId) (ox oy : Operand) {x y : Value} {b : Bool} {w : World} (hg : ∀ op, (eqGuard op t ox oy x y).run P w = .ok () w) (hq : (Op.equalIn 10000 t x y).run P w = .ok b w)
    (h1 : binOp .eql t x y = (do pure (.bool (← Op.equal t x y)))) (h2 : binOp .neq t x y = (do pure (.bool (!(← Op.equal t x y))))) :
    (do eqGuard (eqop neg) t ox oy x y; binOp (eqop neg) t x y : Sem Value).run P w = .ok (.bool (if neg then !b else b)) w := by
  cases neg
  · simp only [eqop, Bool.false_eq_true, if_false, Sem.run_bind, hg, Result.andThen_ok, h1, Op.equal, Op.maxDepth, hq, Sem.run_pure]
  · simp only [eqop, if_true, Sem.run_bind, hg, Result.andThen_ok, h2, Op.equal, Op.maxDepth, hq, Sem.run_pure]
theorem comp76 : ∃ i, P.info? 76 = some i ∧ i.comparable = true := by
  have h : (P.info? 76).map (·.comparable) = some true := by kernel_rfl
  cases hi : P.info? 76 with
  | none => rw [hi] at h; cases h
  | some i => rw [hi] at h; exact ⟨i, rfl, by simpa using h⟩
theorem und43 : ∃ ms, P.underlying 43 = some (.interface ms) := ⟨_, Try.underlying43⟩
theorem q_nil (d : Nat) (w : World) : (Op.equalIn (d + 1) 43 .nilIface .nilIface).run P w = .ok true w := by
  obtain ⟨ms, u⟩ := und43
  simp only [Op.equalIn, Sem.run_bind, run_underlying u, Result.andThen_ok, Sem.run_pure]
theorem q_in (d : Nat) (t : TypeId) (v : Value) (w : World) : (Op.equalIn (d + 1) 43 (.iface t v) .nilIface).run P w = .ok false w := by
  obtain ⟨ms, u⟩ := und43
  simp only [Op.equalIn, Sem.run_bind, run_underlying u, Result.andThen_ok, Sem.run_pure]
theorem q_ni (d : Nat) (t : TypeId) (v : Value) (w : World) : (Op.equalIn (d + 1) 43 .nilIface (.iface t v)).run P w = .ok false w := by
  obtain ⟨ms, u⟩ := und43
  simp only [Op.equalIn, Sem.run_bind, run_underlying u, Result.andThen_ok, Sem.run_pure]
theorem q_ne (d : Nat) (t t' : TypeId) (v v' : Value) (h : t ≠ t') (w : World) : (Op.equalIn (d + 1) 43 (.iface t v) (.iface t' v')).run P w = .ok false w := by
  obtain ⟨ms, u⟩ := und43
  simp only [Op.equalIn, Sem.run_bind, run_underlying u, Result.andThen_ok]
  rw [if_pos h]; rfl
theorem q_err (d : Nat) (p q : Int) (w : World) : (Op.equalIn (d + 2) 43 (.iface 76 (.int .i64 p)) (.iface 76 (.int .i64 q))).run P w = .ok (decide (p = q)) w := by
  obtain ⟨ms, u⟩ := und43
  obtain ⟨i, hi, hc⟩ := comp76
  have h := run_equalIn_int (P := P) w d 76 .i64 .i64 p q und76
  rw [Op.equalIn]
  simp only [Sem.run_bind, run_underlying u, Result.andThen_ok]
  rw [if_neg (by simp)]
  simp only [typeInfo, Sem.run_bind, run_program, Result.andThen_ok, hi, Sem.run_pure, hc, Bool.not_true, Bool.false_eq_true, if_false]
  rw [h]
  by_cases e : p = q <;> simp [e]
theorem q_pnn {t e : TypeId} (u : P.underlying t = some (.pointer e)) (d : Nat) (w : World) : (Op.equalIn (d + 1) t (.pointer none) (.pointer none)).run P w = .ok true w := by
  simp only [Op.equalIn, Sem.run_bind, run_underlying u, Result.andThen_ok, Sem.run_pure]
  rfl
theorem q_pn {t e : TypeId} (u : P.underlying t = some (.pointer e)) (d : Nat) (a : Addr) (w : World) : (Op.equalIn (d + 1) t (.pointer (some a)) (.pointer none)).run P w = .ok false w := by
  simp only [Op.equalIn, Sem.run_bind, run_underlying u, Result.andThen_ok, Sem.run_pure]
theorem q_mn (d r : Nat) (w : World) : (Op.equalIn (d + 1) 108 (.map (some r)) (.map none)).run P w = .ok false w := by
  have u : P.underlying 108 = some (.map 9 3) := Try.underlying108
  simp only [Op.equalIn, Sem.run_bind, run_underlying u, Result.andThen_ok, Sem.run_pure]
def eqs (t : TypeId) (x y : Value) : Prop := binOp .eql t x y = (do pure (.bool (← Op.equal t x y))) ∧ binOp .neq t x y = (do pure (.bool (!(← Op.equal t x y))))
theorem s_bool (t : TypeId) (a b : Bool) : eqs t (.bool a) (.bool b) := ⟨rfl, rfl⟩
theorem s_nn (t : TypeId) : eqs t .nilIface .nilIface := ⟨rfl, rfl⟩
theorem s_in (t u : TypeId) (v : Value) : eqs t (.iface u v) .nilIface := ⟨rfl, rfl⟩
theorem s_ni (t u : TypeId) (v : Value) : eqs t .nilIface (.iface u v) := ⟨rfl, rfl⟩
theorem s_ii (t u u' : TypeId) (v v' : Value) : eqs t (.iface u v) (.iface u' v') := ⟨rfl, rfl⟩
theorem s_pp (t : TypeId) (a b : Option Addr) : eqs t (.pointer a) (.pointer b) := ⟨rfl, rfl⟩
theorem s_mm (t : TypeId) (a b : Option Nat) : eqs t (.map a) (.map b) := ⟨rfl, rfl⟩
theorem s_aa (t : TypeId) (a b : Array Value) : eqs t (.agg a) (.agg b) := ⟨rfl, rfl⟩
theorem eq_of' (neg : Bool) (t : TypeId) (ox oy : Operand) {x y : Value} {b : Bool} {w : World} (hg : ∀ op, (eqGuard op t ox oy x y).run P w = .ok () w) (hq : (Op.equalIn 10000 t x y).run P w = .ok b w) (hs : eqs t x y) :
    (do eqGuard (eqop neg) t ox oy x y; binOp (eqop neg) t x y : Sem Value).run P w = .ok (.bool (if neg then !b else b)) w := eq_of neg t ox oy hg hq hs.1 hs.2
theorem guard_nil (op : BinOp) (t : TypeId) (ox oy : Operand) (w : World) (h : (isLit ox || isLit oy) = true) : (eqGuard op t ox oy .nilIface .nilIface).run P w = .ok () w := by
  cases op <;> first | rfl | skip
  all_goals
    simp only [eqGuard]
    cases ox <;> cases oy <;> first | (simp [isLit] at h; done) | rfl
theorem g_bool (op : BinOp) (t : TypeId) (ox oy : Operand) (a b : Bool) (w : World) : (eqGuard op t ox oy (.bool a) (.bool b)).run P w = .ok () w := by cases op <;> rfl
theorem g_in (op : BinOp) (t : TypeId) (ox oy : Operand) (u : TypeId) (v : Value) (w : World) : (eqGuard op t ox oy (.iface u v) .nilIface).run P w = .ok () w := by cases op <;> rfl
theorem g_ni (op : BinOp) (t : TypeId) (ox oy : Operand) (u : TypeId) (v : Value) (w : World) : (eqGuard op t ox oy .nilIface (.iface u v)).run P w = .ok () w := by cases op <;> rfl
theorem g_ii (op : BinOp) (t : TypeId) (ox oy : Operand) (u u' : TypeId) (v v' : Value) (w : World) : (eqGuard op t ox oy (.iface u v) (.iface u' v')).run P w = .ok () w := by cases op <;> rfl
theorem g_pp (op : BinOp) (t : TypeId) (ox oy : Operand) (a b : Option Addr) (w : World) : (eqGuard op t ox oy (.pointer a) (.pointer b)).run P w = .ok () w := by cases op <;> rfl
theorem g_mm (op : BinOp) (t : TypeId) (ox oy : Operand) (a b : Option Nat) (w : World) : (eqGuard op t ox oy (.map a) (.map b)).run P w = .ok () w := by cases op <;> rfl
theorem eqv_run {t : TypeId} {lit : Bool} {ix iy : IV} {b : Bool} (h : eqv t lit ix iy = some b) {κ : K} {w : World} {x y : Value} (hx : Rel κ w ix x) (hy : Rel κ w iy y) (neg : Bool) (ox oy : Operand) (hl : lit = (isLit ox || isLit oy)) :
    (do eqGuard (eqop neg) t ox oy x y; binOp (eqop neg) t x y : Sem Value).run P w = .ok (.bool (if neg then !b else b)) w := by
  unfold eqv at h
  split at h
  · cases h
    simp only [Rel] at hx hy
    subst hx hy
    rename_i p q
    refine eq_of' neg _ ox oy (fun op => g_bool op _ ox oy _ _ w) ?_ (s_bool _ _ _)
    have := run_equalIn_bool' (P := P) w 9999 4 p q und4
    rw [show (decide (p = q)) = (p == q) by cases p <;> cases q <;> rfl]
    exact this
  · split at h
    · rename_i hlit
      cases h
      simp only [Rel] at hx hy
      subst hx hy
      exact eq_of' neg _ ox oy (fun op => guard_nil op _ ox oy w (hl ▸ hlit)) (q_nil 9999 w) (s_nn _)
    · cases h
  · cases h
    simp only [Rel] at hx hy
    obtain ⟨u, rfl, _⟩ := hx
    subst hy
    exact eq_of' neg _ ox oy (fun op => g_in op _ ox oy _ _ w) (q_in 9999 _ _ w) (s_in _ _ _)
  · cases h
    simp only [Rel] at hx hy
    obtain ⟨u, rfl, _⟩ := hy
    subst hx
    exact eq_of' neg _ ox oy (fun op => g_ni op _ ox oy _ _ w) (q_ni 9999 _ _ w) (s_ni _ _ _)
  · cases h
    simp only [Rel] at hx hy
    obtain ⟨u, rfl, rfl⟩ := hx
    obtain ⟨u, rfl, rfl⟩ := hy
    exact eq_of' neg _ ox oy (fun op => g_ii op _ ox oy _ _ _ _ w) (q_err 9998 _ _ w) (s_ii _ _ _ _ _)
  · cases h
    simp only [Rel] at hx hy
    obtain ⟨u, rfl, _⟩ := hx
    obtain ⟨u', rfl, _⟩ := hy
    exact eq_of' neg _ ox oy (fun op => g_ii op _ ox oy _ _ _ _ w) (q_ne 9999 _ _ _ _ (by decide) w) (s_ii _ _ _ _ _)
  · cases h
    simp only [Rel] at hx hy
    subst hx hy
    exact eq_of' neg _ ox oy (fun op => g_pp op _ ox oy _ _ w) (q_pnn Try.underlying109 9999 w) (s_pp _ _ _)
  · cases h
    simp only [Rel] at hx hy
    obtain ⟨b', off, rfl, _⟩ := hx
    subst hy
    exact eq_of' neg _ ox oy (fun op => g_pp op _ ox oy _ _ w) (q_pn Try.underlying109 9999 _ w) (s_pp _ _ _)
  · cases h
    simp only [Rel] at hx hy
    subst hx hy
    exact eq_of' neg _ ox oy (fun op => g_pp op _ ox oy _ _ w) (q_pnn Try.underlying156 9999 w) (s_pp _ _ _)
  · cases h
    simp only [Rel] at hx hy
    obtain ⟨b', _, rfl⟩ := hx
    subst hy
    exact eq_of' neg _ ox oy (fun op => g_pp op _ ox oy _ _ w) (q_pn Try.underlying156 9999 _ w) (s_pp _ _ _)
  · cases h
    simp only [Rel] at hx hy
    obtain ⟨b', _, rfl⟩ := hx
    subst hy
    exact eq_of' neg _ ox oy (fun op => g_mm op _ ox oy _ _ w) (q_mn 9999 _ w) (s_mm _ _ _)
  · rename_i l l'
    split at h
    · rename_i p q e1 e2
      cases h
      obtain ⟨a0, a1, a2, a3⟩ := p
      obtain ⟨b0, b1, b2, b3⟩ := q
      simp only [Rel] at hx hy
      obtain ⟨vs, rfl, h1⟩ := hx
      obtain ⟨us, rfl, h2⟩ := hy
      have e3 := info_vals e1 h1
      have e4 := info_vals e2 h2
      obtain rfl : vs = #[.int .i64 a0, .int .i64 a1, .int .i64 a2, .bool a3] := by rw [← Array.toList_inj, e3]
      obtain rfl : us = #[.int .i64 b0, .int .i64 b1, .int .i64 b2, .bool b3] := by rw [← Array.toList_inj, e4]
      exact eq_of' neg _ ox oy (fun op => run_eqGuard_agg w op 31 ox oy _ _ (by kernel_rfl)) (eq31 w _ _ _ _ _ _ _ _) (s_aa _ _ _)
    · cases h
  · split at h
    · rename_i p xs q ys e1 e2
      split at h
      · rename_i hlen
        cases h
        simp only [Rel] at hx hy
        obtain ⟨vs, rfl, h1⟩ := hx
        obtain ⟨us, rfl, h2⟩ := hy
        have e3 := ints_vals e1 h1
        have e4 := ints_vals e2 h2
        obtain rfl : vs = pg (p :: xs) := by rw [← Array.toList_inj, e3]; rfl
        obtain rfl : us = pg (q :: ys) := by rw [← Array.toList_inj, e4]; rfl
        exact eq_of' neg _ ox oy (fun op => run_eqGuard_agg w op 50 ox oy _ _ (by kernel_rfl)) (run_eq50 w _ _ _ _ hlen.1 hlen.2) (s_aa _ _ _)
      · cases h
    · cases h
  · cases h
theorem val_eq {t t' : TypeId} {x y : Operand} {neg b : Bool} (h : eqv t (isLit x || isLit y) (st.ev x) (st.ev y) = some b) : Val n wr st (.binOp (eqop neg) t x y t') (.v (.bool (if neg then !b else b))) st.m :=
  Val.pure fun κ ac w hr => ⟨.bool (if neg then !b else b), by simp only [Rel], fun o ho => by
    have := eqv_run h (hr.ev x) (hr.ev y) neg x y rfl
    simp only [execOp, ho, Sem.run_bind] at this ⊢
    rw [this]; rfl⟩
end
end Go.Proofs.Ytphjldhdnmoolaa.A
/- Words: conversions, strings, interfaces, lengths, looks into maps. -/
namespace Go.Proofs.Ytphjldhdnmoolaa.A
open Go
section
variable {n : Nat} {wr : Nat → Prop} {st : St}
theorem val_not {t : TypeId} {x : Operand} {b : Bool} (hx : st.ev x = .v (.bool b)) : Val n wr st (.unOp .not t x) (.v (.bool (!b))) st.m :=
  Val.pure fun κ ac w hr => by
    have hx' := hr.ev x
    rw [hx] at hx'
    simp only [Rel] at hx'
    exact ⟨.bool (!b), by simp only [Rel], fun o ho => by simp only [execOp, ho, hx', Op.unary, Sem.run_bind, Sem.run_pure, Result.andThen_ok]⟩
theorem val_neg {t : TypeId} {x : Operand} {k : IntKind} {a : Int} (hx : st.ev x = .v (.int k a)) : Val n wr st (.unOp .neg t x) (.v (.int k (k.wrap (0 - a)))) st.m :=
  Val.pure fun κ ac w hr => by
    have hx' := hr.ev x
    rw [hx] at hx'
    simp only [Rel] at hx'
    exact ⟨.int k (k.wrap (0 - a)), by simp only [Rel], fun o ho => by simp only [execOp, ho, hx', Op.unary, Op.intArith, Sem.run_bind, Sem.run_pure, Result.andThen_ok]⟩
def ikind (t : Nat) : Option IntKind := match t with
  | 3 => some .i64
  | 5 => some .u8
  | 65 => some .u64
  | 76 => some .i64
  | _ => none
theorem ikind_ok {t : Nat} {k : IntKind} (h : ikind t = some k) : P.underlying t = some (.int k) := by
  unfold ikind at h
  split at h
  · cases h; exact Try.underlying3
  · cases h; exact Try.underlying5
  · cases h; exact Try.underlying65
  · cases h; exact Try.underlying76
  · cases h
theorem run_convert_int {s d : TypeId} {k k' q : IntKind} (hs : P.underlying s = some (.int k)) (hd : P.underlying d = some (.int k')) (a : Int) (w : World) : (convert s d (.int q a)).run P w = .ok (.int k' (k'.wrap a)) w := by
  simp only [convert, Sem.run_bind, run_underlying hs, run_underlying hd, Result.andThen_ok, Conv.intToInt, Sem.run_pure]
theorem val_conv {s d : TypeId} {x : Operand} {k k' q : IntKind} {a : Int} (hs : ikind s = some k) (hd : ikind d = some k') (hx : st.ev x = .v (.int q a)) : Val n wr st (.convert s d x) (.v (.int k' (k'.wrap a))) st.m :=
  Val.pure fun κ ac w hr => by
    have hx' := hr.ev x
    rw [hx] at hx'
    simp only [Rel] at hx'
    exact ⟨.int k' (k'.wrap a), by simp only [Rel], fun o ho => by simp only [execOp, ho, hx', Sem.run_bind, run_convert_int (ikind_ok hs) (ikind_ok hd), Result.andThen_ok, Sem.run_pure]⟩
theorem val_byteString {x : Operand} {k : SK} {b : Int} (hx : st.ev x = .sl k 1 [.v (.int .u8 b)]) : Val n wr st (.convert 121 9 x) (.v (.string (ByteArray.empty.push (UInt8.ofNat b.toNat)))) st.m :=
  Val.pure fun κ ac w hr => by
    have hx' := hr.ev x
    rw [hx] at hx'
    simp only [Rel] at hx'
    obtain ⟨A, c, e, _, _, h⟩ := hx'
    rcases h with h | ⟨bl, off, rfl, hc⟩
    · cases h
    obtain ⟨_, v, hv, hr'⟩ := hc.get (j := 0) rfl
    simp only [Rel] at hr'
    subst hr'
    refine ⟨.string (ByteArray.empty.push (UInt8.ofNat b.toNat)), by simp only [Rel], fun o ho => ?_⟩
    have hl := run_loadCells_list (P := P) w ⟨bl, off, none⟩ [.int .u8 b] (fun j u hu => by
      rw [add_at]
      cases j with
      | zero => simp only [List.getElem?_cons_zero, Option.some.injEq] at hu; subst hu; exact hv
      | succ j => simp at hu)
    have hl' : (loadCells ⟨bl, off, none⟩ 1).run P w = .ok #[.int .u8 b] w := hl
    have hcv : (convert 121 9 (.slice (some ⟨bl, off, none⟩) 1 c)).run P w = .ok (.string (ByteArray.empty.push (UInt8.ofNat b.toNat))) w := by
      simp only [convert, Sem.run_bind, run_underlying (show P.underlying 121 = some (.slice 5) from Try.underlying121), run_underlying (show P.underlying 9 = some .string from Try.underlying9), run_underlying (show P.underlying 5 = some (.int .u8) from Try.underlying5), Result.andThen_ok, Conv.bytesToString, hl']
      simp
    simp only [execOp, ho, e, Sem.run_bind, hcv, Result.andThen_ok, Sem.run_pure]
def ifT (t : Nat) : Bool := t == 76 || t == 109 || t == 108
theorem ifT_ok {t : Nat} (h : ifT t = true) : ∃ d, P.underlying t = some d ∧ (match d with | .interface _ => false | _ => true) = true := by
  simp only [ifT, Bool.or_eq_true, beq_iff_eq] at h
  rcases h with (rfl | rfl) | rfl
  · exact ⟨_, Try.underlying76, rfl⟩
  · exact ⟨_, Try.underlying109, rfl⟩
  · exact ⟨_, Try.underlying108, rfl⟩
theorem val_iface {t : TypeId} {x : Operand} (h : ifT t = true) : Val n wr st (.makeInterface t x) (.iface t (st.ev x)) st.m :=
  Val.pure fun κ ac w hr => by
    obtain ⟨d, hd, hn⟩ := ifT_ok h
    refine ⟨.iface t (ac.eval x), by simp only [Rel]; exact ⟨_, rfl, hr.ev x⟩, fun o ho => ?_⟩
    simp only [execOp, ho, Instr.makeInterface, Sem.run_bind, run_underlying hd, Result.andThen_ok]
    cases d <;> first | rfl | cases hn
def zeroOf (t : Nat) : Option Value := match t with
  | 76 => some (.int .i64 0)
  | 109 => some (.pointer none)
  | 108 => some (.map none)
  | 3 => some (.int .i64 0)
  | _ => none
theorem z76 (w : World) : (zeroValue 76).run P w = .ok (.int .i64 0) w := by kernel_rfl
theorem z109 (w : World) : (zeroValue 109).run P w = .ok (.pointer none) w := by kernel_rfl
theorem z108 (w : World) : (zeroValue 108).run P w = .ok (.map none) w := by kernel_rfl
theorem z3 (w : World) : (zeroValue 3).run P w = .ok (.int .i64 0) w := by kernel_rfl
theorem zeroOf_run {t : Nat} {z : Value} (h : zeroOf t = some z) (w : World) : (zeroValue t).run P w = .ok z w := by
  unfold zeroOf at h
  split at h
  · cases h; exact z76 w
  · cases h; exact z109 w
  · cases h; exact z108 w
  · cases h; exact z3 w
  · cases h
theorem val_assertOk {s t : TypeId} {x : Operand} {y : IV} (h : ifT t = true) (hx : st.ev x = .iface t y) : Val n wr st (.typeAssert x s t true) (.tup [y, .v (.bool true)]) st.m :=
  Val.pure fun κ ac w hr => by
    obtain ⟨d, hd, hn⟩ := ifT_ok h
    have hx' := hr.ev x
    rw [hx] at hx'
    simp only [Rel] at hx'
    obtain ⟨u, e, hu⟩ := hx'
    refine ⟨.tuple #[u, .bool true], by simp only [Rel, RelL]; exact ⟨_, rfl, u, _, rfl, hu, _, _, rfl, rfl, rfl⟩, fun o ho => ?_⟩
    simp only [execOp, ho, e, Instr.typeAssert, Sem.run_bind, run_underlying hd, Result.andThen_ok]
    cases d <;> first | (simp; done) | cases hn
theorem val_assertPlain {s t : TypeId} {x : Operand} {y : IV} (h : ifT t = true) (hx : st.ev x = .iface t y) : Val n wr st (.typeAssert x s t false) y st.m :=
  Val.pure fun κ ac w hr => by
    obtain ⟨d, hd, hn⟩ := ifT_ok h
    have hx' := hr.ev x
    rw [hx] at hx'
    simp only [Rel] at hx'
    obtain ⟨u, e, hu⟩ := hx'
    refine ⟨u, hu, fun o ho => ?_⟩
    simp only [execOp, ho, e, Instr.typeAssert, Sem.run_bind, run_underlying hd, Result.andThen_ok]
    cases d <;> first | (simp; done) | cases hn
theorem val_assertNo {s t t' : TypeId} {x : Operand} {y : IV} {z : Value} (h : ifT t = true) (hx : st.ev x = .iface t' y) (hne : t' ≠ t) (hz : zeroOf t = some z) : Val n wr st (.typeAssert x s t true) (.tup [.v z, .v (.bool false)]) st.m :=
  Val.pure fun κ ac w hr => by
    obtain ⟨d, hd, hn⟩ := ifT_ok h
    have hx' := hr.ev x
    rw [hx] at hx'
    simp only [Rel] at hx'
    obtain ⟨u, e, hu⟩ := hx'
    refine ⟨.tuple #[z, .bool false], by simp only [Rel, RelL]; exact ⟨_, rfl, z, _, rfl, rfl, _, _, rfl, rfl, rfl⟩, fun o ho => ?_⟩
    simp only [execOp, ho, e, Instr.typeAssert, Sem.run_bind, run_underlying hd, Result.andThen_ok]
    cases d <;> first | (simp [hne, zeroOf_run hz]; done) | cases hn
/-! strings -/
theorem val_indexStr {t : TypeId} {x i : Operand} {s : ByteArray} {j : Int} {b : UInt8} (ht : t = 9) (hx : st.ev x = .v (.string s)) (hi : st.ev i = .v (.int .i64 j)) (h0 : 0 ≤ j) (hb : s[j.toNat]? = some b) : Val n wr st (.index t x i) (.v (.int .u8 b.toNat)) st.m :=
  Val.pure fun κ ac w hr => by
    subst ht
    have hx' := hr.ev x
    have hi' := hr.ev i
    rw [hx] at hx'; rw [hi] at hi'
    simp only [Rel] at hx' hi'
    refine ⟨.int .u8 b.toNat, by simp only [Rel], fun o ho => ?_⟩
    simp only [execOp, ho, hx', hi', Instr.index, asIntOf, Sem.run_bind, Sem.run_pure, run_underlying (show P.underlying 9 = some .string from Try.underlying9), Result.andThen_ok, if_pos h0, hb]
theorem val_sliceStr {t : TypeId} {x lo hi : Operand} {s : ByteArray} {l h : Int} (ht : t = 9) (hx : st.ev x = .v (.string s)) (hl : st.ev lo = .v (.int .i64 l)) (hh : st.ev hi = .v (.int .i64 h)) (h0 : 0 ≤ l) (h1 : l ≤ h) (h2 : h ≤ s.size) : Val n wr st (.slice t x (some lo) (some hi) none) (.v (.string (s.extract l.toNat h.toNat))) st.m :=
  Val.pure fun κ ac w hr => by
    subst ht
    have hx' := hr.ev x
    have hl' := hr.ev lo
    have hh' := hr.ev hi
    rw [hx] at hx'; rw [hl] at hl'; rw [hh] at hh'
    simp only [Rel] at hx' hl' hh'
    refine ⟨.string (s.extract l.toNat h.toNat), by simp only [Rel], fun o ho => ?_⟩
    have e1 := run_sliceAt_string (P := P) w 9 (.string s) (some (.int .i64 l)) (some (.int .i64 h)) none Try.underlying9
    have eh : (h.toNat : Int) = h := Int.toNat_of_nonneg (by omega)
    have e2 : (Instr.slice 9 (.string s) (some (.int .i64 l)) (some (.int .i64 h)) none).run P w = .ok (.string (s.extract l.toNat h.toNat)) w := by
      simp [Instr.slice, run_underlying (show P.underlying 9 = some .string from Try.underlying9), Instr.sliceBounds, run_sliceBound, h0, h1, h2, eh, (by omega : 0 ≤ h)]
    simp only [execOp, ho, hx', Option.map_some, Option.map_none, hl', hh', Sem.run_bind, e1, e2, Result.andThen_ok, Sem.run_pure]
/-! lengths -/
theorem val_lenSl {t ty_ e : TypeId} {x : Operand} {k : SK} {m : Nat} {l : List IV} (hs : sel t = some e) (hx : st.ev x = .sl k m l) : Val n wr st (.call ⟨.builtin .len, #[x], #[t]⟩) (.v (.int .i64 m)) st.m :=
  Val.pure fun κ ac w hr => by
    have hx' := hr.ev x
    rw [hx] at hx'
    simp only [Rel] at hx'
    obtain ⟨A, c, e1, _⟩ := hx'
    refine ⟨.int .i64 m, by simp only [Rel], fun o ho => ?_⟩
    simp [execOp, ho, e1, resolve, invoke, builtin, Builtin.len_, run_underlying (sel_ok hs).1, goInt]
theorem val_lenStr {t : TypeId} {x : Operand} {s : ByteArray} (ht : t = 9) (hx : st.ev x = .v (.string s)) : Val n wr st (.call ⟨.builtin .len, #[x], #[t]⟩) (.v (.int .i64 s.size)) st.m :=
  Val.pure fun κ ac w hr => by
    subst ht
    have hx' := hr.ev x
    rw [hx] at hx'
    simp only [Rel] at hx'
    refine ⟨.int .i64 s.size, by simp only [Rel], fun o ho => ?_⟩
    simp [execOp, ho, hx', resolve, invoke, builtin, Builtin.len_, run_underlying (show P.underlying 9 = some .string from Try.underlying9), goInt]
theorem val_max {x y : Operand} {ts : Array TypeId} {k k' : IntKind} {a b : Int} (hx : st.ev x = .v (.int k a)) (hy : st.ev y = .v (.int k' b)) : Val n wr st (.call ⟨.builtin .max, #[x, y], ts⟩) (.v (.int k (if a < b then b else a))) st.m :=
  Val.pure fun κ ac w hr => by
    have hx' := hr.ev x
    have hy' := hr.ev y
    rw [hx] at hx'; rw [hy] at hy'
    simp only [Rel] at hx' hy'
    refine ⟨.int k (if a < b then b else a), by simp only [Rel], fun o ho => ?_⟩
    simp [execOp, ho, hx', hy', resolve, invoke, builtin, Builtin.max_, Builtin.max2]
theorem val_min {x y : Operand} {ts : Array TypeId} {k k' : IntKind} {a b : Int} (hx : st.ev x = .v (.int k a)) (hy : st.ev y = .v (.int k' b)) : Val n wr st (.call ⟨.builtin .min, #[x, y], ts⟩) (.v (.int k (if b < a then b else a))) st.m :=
  Val.pure fun κ ac w hr => by
    have hx' := hr.ev x
    have hy' := hr.ev y
    rw [hx] at hx'; rw [hy] at hy'
    simp only [Rel] at hx' hy'
    refine ⟨.int k (if b < a then b else a), by simp only [Rel], fun o ho => ?_⟩
    simp [execOp, ho, hx', hy', resolve, invoke, builtin, Builtin.min_, Builtin.min2]
/-! maps -/
def mlook (es : Array MapEntry) (s : ByteArray) : Option (Option (Nat × Value)) := Instr.findNow .string (.string s) es.toList 0
theorem und108 : P.underlying 108 = some (.map 9 3) := Try.underlying108
theorem und9 : P.underlying 9 = some .string := Try.underlying9
theorem run_checkKey (b : Bool) (s : ByteArray) (w : World) : (Instr.checkKey b 10000 9 (.string s)).run P w = .ok () w := by
  have : ∀ d, (Instr.checkKey b (d + 1) 9 (.string s)).run P w = .ok () w := fun d => by
    simp only [Instr.checkKey, Sem.run_bind, run_underlying und9, Result.andThen_ok, Sem.run_pure]
  exact this 9999
theorem run_findKey {es : Array MapEntry} {s : ByteArray} {r : Option (Nat × Value)} (h : mlook es s = some r) (w : World) : (Instr.findKey 9 (.string s) es.toList).run P w = .ok r w := by
  unfold mlook at h
  simp only [Instr.findKey, Sem.run_bind, run_underlying und9, Result.andThen_ok, h, Sem.run_pure]
def mval (r : Option (Nat × Value)) : Value := match r with
  | some (_, v) => v
  | none => .int .i64 0
def Mem.map_ (m : Mem) (o : Nat) : Option (Array MapEntry × Nat) := match m.objs[o]? with
  | some (.map es c) => some (es, c)
  | _ => none
theorem map_rel_ {κ : K} {ac : Act} {w : World} (hr : StRel n wr κ st ac w) {o : Nat} {es : Array MapEntry} {c : Nat} {y : Value} (hx : Rel κ w (.map o) y) (h : st.m.map_ o = some (es, c)) : ∃ b, κ.objs[o]? = some b ∧ y = .map (some b) ∧ w.heap[b]? = some (.map es c) := by
  simp only [Rel] at hx
  obtain ⟨b, hb, e⟩ := hx
  unfold Mem.map_ at h
  split at h
  · rename_i ho; cases h; exact ⟨b, hb, e, hr.inv.obj o b _ hb ho⟩
  · cases h
theorem run_getObj {b : Nat} {w : World} {es : Array MapEntry} {c : Nat} (h : w.heap[b]? = some (.map es c)) : (getObj b).run P w = .ok (.map es c) w := by
  simp only [getObj, Sem.run, h]
theorem val_lookup {x i : Operand} {ok : Bool} {o : Nat} {es : Array MapEntry} {c : Nat} {s : ByteArray} {r : Option (Nat × Value)} (hx : st.ev x = .map o) (hm : st.m.map_ o = some (es, c)) (hi : st.ev i = .v (.string s)) (hr : mlook es s = some r) :
    Val n wr st (.lookup 108 x i ok) (if ok then .tup [.v (mval r), .v (.bool r.isSome)] else .v (mval r)) st.m :=
  Val.pure fun κ ac w hst => by
    obtain ⟨b, hb, e1, h1⟩ := map_rel_ hst (hx ▸ hst.ev x) hm
    have hi' := hst.ev i
    rw [hi] at hi'
    simp only [Rel] at hi'
    refine ⟨if ok then .tuple #[mval r, .bool r.isSome] else mval r, ?_, fun q hq => ?_⟩
    · cases ok
      · simp only [Bool.false_eq_true, if_false, Rel]
      · simp only [if_true, Rel, RelL]; exact ⟨_, rfl, _, _, rfl, rfl, _, _, rfl, rfl, rfl⟩
    · simp only [execOp, hq, e1, hi', Instr.lookup, Sem.run_bind, run_underlying und108, Result.andThen_ok, run_getObj h1, Sem.run_pure, run_checkKey, run_findKey hr]
      cases r with
      | none => simp only [Sem.run_bind, zeroOf_run (t := 3) rfl, Result.andThen_ok, Sem.run_pure]; cases ok <;> rfl
      | some p => obtain ⟨j, v⟩ := p; cases ok <;> rfl
theorem val_lenMap {x : Operand} {o : Nat} {es : Array MapEntry} {c : Nat} (hx : st.ev x = .map o) (hm : st.m.map_ o = some (es, c)) : Val n wr st (.call ⟨.builtin .len, #[x], #[108]⟩) (.v (.int .i64 es.size)) st.m :=
  Val.pure fun κ ac w hst => by
    obtain ⟨b, hb, e1, h1⟩ := map_rel_ hst (hx ▸ hst.ev x) hm
    refine ⟨.int .i64 es.size, by simp only [Rel], fun o ho => ?_⟩
    have hl : (Builtin.len_ #[108] o.type #[.map (some b)]).run P w = .ok (goInt es.size) w := by
      simp only [Builtin.len_, List.getElem?_toArray, List.getElem?_cons_zero, Sem.run_bind, run_underlying und108, Result.andThen_ok, run_getObj h1, Sem.run_pure]
    simp only [execOp, ho, e1, resolve, List.map_toArray, List.map_cons, List.map_nil, invoke, builtin, Sem.run_bind, Sem.run_pure, Result.andThen_ok, hl, goInt]
end
end Go.Proofs.Ytphjldhdnmoolaa.A
/- Words: operations that make memory or write it. -/
namespace Go.Proofs.Ytphjldhdnmoolaa.A
open Go
section
variable {n : Nat} {wr : Nat → Prop} {st : St}
/-! new blocks -/
theorem zal {t : Nat} {z : List Value} {pl : Nat → Option (Nat × Nat)} (h : bld t = some (z, pl)) (w : World) : (zeroValue t).run P w = .ok (.agg z.toArray) w := by
  unfold bld at h
  split at h <;> first | (cases h; done) | skip
  all_goals
    have e := Option.some.inj h
    cases e
    show Sem.run P _ w = _
    kernel_rfl
theorem z48 (w : World) : (zeroValue 48).run P w = .ok (.agg (List.replicate 60 Z).toArray) w := by kernel_rfl
def zer (t : Nat) : Option (List Value) := match t with
  | 48 => some (List.replicate 60 Z)
  | t => (bld t).map (·.1)
theorem zer_run {t : Nat} {z : List Value} (h : zer t = some z) (w : World) : (zeroValue t).run P w = .ok (.agg z.toArray) w := by
  unfold zer at h
  split at h
  · cases h; exact z48 w
  · obtain ⟨⟨z', pl⟩, h1, rfl⟩ := Option.map_eq_some_iff.1 h
    exact zal h1 w
theorem val_alloc {t : TypeId} {z : List Value} (h : zer t = some z) : Val n wr st (.alloc t) (.ptr st.m.objs.length 0) ⟨st.m.objs ++ [.cells (z.map ivc)], st.m.rows⟩ := by
  intro κ a w hr
  obtain ⟨h1, h2⟩ := hr.newObj (.cells z.toArray t) (.cells (z.map ivc)) (fun κ' _ => ⟨z.toArray, t, heap_alloc_new w _, map_rel (ivc_rel κ' _) z⟩)
  refine ⟨_, _, .pointer (some ⟨w.heap.size, 0, none⟩), h2, h1, ?_, fun o K Q ho hK => wp_value ?_ hK⟩
  · simp only [Rel]
    refine ⟨w.heap.size, ?_, rfl⟩
    rw [← hr.inv.len]
    simp
  · simp [execOp, ho, Instr.alloc, zer_run h, newVar, newRow, Value.cells]
theorem val_boxRef {t : TypeId} {x : Operand} {l : List IV} (h : (st.ev x).cells false = some l) : Val n wr st (.box t x) (.ref l) st.m := by
  intro κ a w hr
  have hc := cells_rel h (hr.ev x)
  have hlen : (a.eval x).cells.size = l.length := by rw [← Array.length_toList, RelL.length hc]
  have hg := grow_alloc hr.inv (a.eval x).cells t (a.eval x).cells.size (Nat.le_refl _)
  refine ⟨_, _, .pointer (some ⟨w.heap.size, 0, none⟩), hg.ev hr.inv, (by cases st; exact hr.grow hg), ?_, fun o K Q ho hK => wp_value ?_ hK⟩
  · simp only [Rel]
    refine ⟨w.heap.size, 0, rfl, see_cells hr.inv _ (by omega) (Nat.le_refl _) ?_⟩
    rw [← hlen, ← Array.length_toList, List.take_length]; exact hc
  · simp [execOp, ho, Instr.box, newVar, newRow]
theorem val_boxObj {t : TypeId} {x : Operand} {l : List IV} {keep : Bool} (h : (st.ev x).cells keep = some l) : Val n wr st (.box t x) (.ptr st.m.objs.length 0) ⟨st.m.objs ++ [.cells l], st.m.rows⟩ := by
  intro κ a w hr
  have hc := cells_rel h (hr.ev x)
  obtain ⟨h1, h2⟩ := hr.newObj (.cells (a.eval x).cells t) (.cells l) (fun κ' hle => ⟨(a.eval x).cells, t, heap_alloc_new w _, RelL.mono hle _ _ hc⟩)
  refine ⟨_, _, .pointer (some ⟨w.heap.size, 0, none⟩), h2, h1, ?_, fun o K Q ho hK => wp_value ?_ hK⟩
  · simp only [Rel]
    refine ⟨w.heap.size, ?_, rfl⟩
    rw [← hr.inv.len]
    simp
  · simp [execOp, ho, Instr.box, newVar, newRow]
theorem val_makeMap : Val n wr st (.makeMap 108 none) (.map st.m.objs.length) ⟨st.m.objs ++ [.map #[] 0], st.m.rows⟩ := by
  intro κ a w hr
  obtain ⟨h1, h2⟩ := hr.newObj (.map #[] 0) (.map #[] 0) (fun κ' _ => heap_alloc_new w _)
  refine ⟨_, _, .map (some w.heap.size), h2, h1, ?_, fun o K Q ho hK => wp_value ?_ hK⟩
  · simp only [Rel]
    refine ⟨w.heap.size, ?_, rfl⟩
    rw [← hr.inv.len]
    simp
  · simp [execOp, ho, Instr.makeMap]
/-! stores -/
theorem val_store {t sz by_ : Nat} {ag : Bool} {x y : Operand} {o off : Nat} {l c : List IV} (ht : ty t = some (ag, sz, by_)) (hx : st.ev x = .ptr o off) (ho : st.m.objs[o]? = some (.cells l)) (hy : (st.ev y).cells true = some c) (hsz : c.length = sz) (hfit : off + sz ≤ l.length) :
    Val n wr st (.store t x y) .any ⟨st.m.objs.set o (.cells (splice l off c)), st.m.rows⟩ := by
  intro κ a w hr
  have hx' := hr.ev x
  rw [hx] at hx'
  simp only [Rel] at hx'
  obtain ⟨b, hb, e1⟩ := hx'
  obtain ⟨arr, T, h1, h2⟩ := hr.inv.obj o b _ hb ho
  have hc := cells_rel hy (hr.ev y)
  have h1c := cells_ones hy (hr.ev y)
  have hcl := RelL.length hc
  have hal := RelL.length h2
  rw [Array.length_toList] at hal
  have hst := run_storeCells_at P b off T (a.eval y).cells.toList 0 arr w h1 (by omega) h1c
  simp only [Nat.add_zero] at hst
  have hsp := splice_rel h2 hc off
  obtain ⟨g1, g2⟩ := hr.setObj (w' := w.setRow b (arr.toList.take off ++ (a.eval y).cells.toList ++ arr.toList.drop (off + (a.eval y).cells.toList.length)).toArray) hb (.cells (splice l off c)) rfl rfl rfl (by simp) (fun k hk => setRow_other w b k _ hk)
    (fun hle => ⟨_, T, setRow_heap w b arr _ T (0, 0) h1, RelL.mono hle _ _ (by simpa using hsp)⟩)
  refine ⟨κ, _, undef, g2, g1, by simp only [Rel], fun q K Q hq hK => wp_skip_ ?_ hK⟩
  have hs : (storeVar t ⟨b, off, none⟩ (a.eval y)).run P w = .ok () (w.setRow b (arr.toList.take off ++ (a.eval y).cells.toList ++ arr.toList.drop (off + (a.eval y).cells.toList.length)).toArray) := by
    simp only [storeVar, Sem.run_bind, run_sizeOf ht, Result.andThen_ok]
    rw [if_neg (by rw [← Array.length_toList]; omega)]
    exact hst
  simp only [execOp, hq, e1, Instr.storeAt, Instr.sureAddr, Sem.run_bind, Sem.run_pure, Result.andThen_ok, hs]
/-! maps written -/
theorem findNow_at : ∀ (es : List MapEntry) (s : ByteArray) (k i : Nat) (v : Value), Instr.findNow .string (.string s) es k = some (some (i, v)) → k ≤ i ∧ ∃ e, es[i - k]? = some e ∧ e.key = .string s ∧ e.val = v
  | [], s, k, i, v, h => by simp [Instr.findNow] at h
  | e :: es, s, k, i, v, h => by
    simp only [Instr.findNow] at h
    split at h
    · rename_i hs
      cases h
      refine ⟨Nat.le_refl _, e, by simp, ?_, rfl⟩
      obtain ⟨key, val, born⟩ := e
      cases key <;> simp only [Instr.sameNow, Option.some.injEq, reduceCtorEq] at hs
      rw [beq_toListBytes, beq_toList, decide_eq_true_eq] at hs
      rw [hs]
    · obtain ⟨h1, e', h2, h3⟩ := findNow_at es s (k + 1) i v h
      refine ⟨by omega, e', ?_, h3⟩
      rw [show i - k = (i - (k + 1)) + 1 by omega, List.getElem?_cons_succ]; exact h2
    · cases h
theorem mlook_at {es : Array MapEntry} {s : ByteArray} {i : Nat} {v : Value} (h : mlook es s = some (some (i, v))) : ∃ e, es[i]? = some e ∧ e.key = .string s ∧ e.val = v := by
  obtain ⟨_, e, h1, h2⟩ := findNow_at _ _ _ _ _ h
  exact ⟨e, by simpa using h1, h2⟩
theorem run_keyStays (s : ByteArray) (w : World) : (Instr.keyThatStays (.string s) (.string s)).run P w = .ok (.string s) w := by
  have : ∀ d, Instr.sameBits (d + 1) (.string s) (.string s) = true := fun d => by simp only [Instr.sameBits]; rw [beq_toListBytes, beq_toList]; simp
  unfold Instr.keyThatStays
  rw [show Instr.sameBits 10000 (.string s) (.string s) = true from this 9999]
  rfl
theorem run_setObj {b : Nat} {w : World} {es : Array MapEntry} {c : Nat} (h : w.heap[b]? = some (.map es c)) (o : Obj) : (setObj b o).run P w = .ok () { w with heap := w.heap.setIfInBounds b o } := by
  simp only [setObj, Sem.run, h]
theorem setMap {κ : K} {a : Act} {w : World} (hr : StRel n wr κ st a w) {o b : Nat} {es es' : Array MapEntry} {c c' : Nat} (hb : κ.objs[o]? = some b) (h : w.heap[b]? = some (.map es c)) :
    StRel n wr κ ⟨st.t, ⟨st.m.objs.set o (.map es' c'), st.m.rows⟩⟩ a { w with heap := w.heap.setIfInBounds b (.map es' c') } ∧ Ev wr κ w κ { w with heap := w.heap.setIfInBounds b (.map es' c') } :=
  hr.setObj hb (.map es' c') rfl rfl rfl (by simp) (fun k hk => by show (w.heap.setIfInBounds b _)[k]? = _; rw [Array.getElem?_setIfInBounds_ne (fun e => hk e.symm)])
    (fun _ => by
      show (w.heap.setIfInBounds b _)[b]? = _
      rw [Array.getElem?_setIfInBounds_self_of_lt (Array.getElem?_eq_some_iff.1 h).1])
def mupd (es : Array MapEntry) (c : Nat) (s : ByteArray) (v : Value) : Option (Nat × Value) → Array MapEntry × Nat
  | some (i, _) => (es.modify i fun e => { e with key := .string s, val := v }, c)
  | none => (es.push { key := .string s, val := v, born := c }, c + 1)
theorem val_mapUpdate {x i y : Operand} {o : Nat} {es : Array MapEntry} {c : Nat} {s : ByteArray} {v : Value} {r : Option (Nat × Value)} (hx : st.ev x = .map o) (hm : st.m.map_ o = some (es, c)) (hi : st.ev i = .v (.string s)) (hy : st.ev y = .v v) (hr : mlook es s = some r) :
    Val n wr st (.mapUpdate 108 x i y) .any ⟨st.m.objs.set o (.map (mupd es c s v r).1 (mupd es c s v r).2), st.m.rows⟩ := by
  intro κ a w hst
  obtain ⟨b, hb, e1, h1⟩ := map_rel_ hst (hx ▸ hst.ev x) hm
  have hi' := hst.ev i
  have hy' := hst.ev y
  rw [hi] at hi'; rw [hy] at hy'
  simp only [Rel] at hi' hy'
  obtain ⟨g1, g2⟩ := setMap hst (es' := (mupd es c s v r).1) (c' := (mupd es c s v r).2) hb h1
  refine ⟨κ, _, undef, g2, g1, by simp only [Rel], fun q K Q hq hK => wp_skip_ ?_ hK⟩
  simp only [execOp, hq, e1, hi', hy', Instr.mapUpdate, Sem.run_bind, run_underlying und108, Result.andThen_ok, run_getObj h1, run_checkKey, run_findKey hr]
  cases r with
  | none => simp only [run_setObj h1, Result.andThen_ok, mupd]; rfl
  | some p =>
    obtain ⟨j, u⟩ := p
    obtain ⟨e, he, hk, hv⟩ := mlook_at hr
    simp only [he, Option.map_some, Option.getD_some, hk, Sem.run_bind, run_keyStays, Result.andThen_ok, run_setObj h1, mupd]
    rfl
def bornAt (es : Array MapEntry) (c : Nat) : Option (Nat × Value) → Int
  | some (i, _) => ((es[i]?).map (·.born)).getD 0
  | none => c
def ment (es : Array MapEntry) (c : Nat) (s : ByteArray) : Option (Nat × Value) → Array MapEntry × Nat
  | some (i, _) => (es.modify i fun e => { e with key := .string s }, c)
  | none => (es.push { key := .string s, val := .int .i64 0, born := c }, c + 1)
theorem val_mapEntry {x i : Operand} {o : Nat} {es : Array MapEntry} {c : Nat} {s : ByteArray} {r : Option (Nat × Value)} (hx : st.ev x = .map o) (hm : st.m.map_ o = some (es, c)) (hi : st.ev i = .v (.string s)) (hr : mlook es s = some r) :
    Val n wr st (.mapEntry 108 x i) (.tup [.v (mval r), .v (.int .i64 (bornAt es c r))]) ⟨st.m.objs.set o (.map (ment es c s r).1 (ment es c s r).2), st.m.rows⟩ := by
  intro κ a w hst
  obtain ⟨b, hb, e1, h1⟩ := map_rel_ hst (hx ▸ hst.ev x) hm
  have hi' := hst.ev i
  rw [hi] at hi'
  simp only [Rel] at hi'
  obtain ⟨g1, g2⟩ := setMap hst (es' := (ment es c s r).1) (c' := (ment es c s r).2) hb h1
  refine ⟨κ, _, .tuple #[mval r, .int .i64 (bornAt es c r)], g2, g1, by simp only [Rel, RelL]; exact ⟨_, rfl, _, _, rfl, rfl, _, _, rfl, rfl, rfl⟩, fun q K Q hq hK => wp_value ?_ hK⟩
  simp only [execOp, hq, e1, hi', Instr.mapEntry, Sem.run_bind, run_underlying und108, Result.andThen_ok, run_getObj h1, run_checkKey, run_findKey hr]
  cases r with
  | none => simp only [Sem.run_bind, zeroOf_run (t := 3) rfl, run_setObj h1, Result.andThen_ok, ment, Sem.run_pure, mval, bornAt, goInt]
  | some p =>
    obtain ⟨j, u⟩ := p
    obtain ⟨e, he, hk, hv⟩ := mlook_at hr
    simp only [he, Option.map_some, Option.getD_some, hk, Sem.run_bind, run_keyStays, Result.andThen_ok, run_setObj h1, ment, bornAt]
    rfl
theorem val_entryStore {x i y : Operand} {o j : Nat} {es : Array MapEntry} {c : Nat} {k : IntKind} {q : Int} {v : Value} (hx : st.ev x = .map o) (hm : st.m.map_ o = some (es, c)) (hi : st.ev i = .v (.int k q)) (hy : st.ev y = .v v) (hj : es.findIdx? (fun e => decide ((e.born : Int) = q)) = some j) :
    Val n wr st (.entryStore 108 x i y) .any ⟨st.m.objs.set o (.map (es.modify j fun e => { e with val := v }) c), st.m.rows⟩ := by
  intro κ a w hst
  obtain ⟨b, hb, e1, h1⟩ := map_rel_ hst (hx ▸ hst.ev x) hm
  have hi' := hst.ev i
  have hy' := hst.ev y
  rw [hi] at hi'; rw [hy] at hy'
  simp only [Rel] at hi' hy'
  obtain ⟨g1, g2⟩ := setMap hst (es' := es.modify j fun e => { e with val := v }) (c' := c) hb h1
  refine ⟨κ, _, undef, g2, g1, by simp only [Rel], fun q' K Q hq hK => wp_skip_ ?_ hK⟩
  have hj' : es.findIdx? (fun e => (e.born : Int) == q) = some j := by rw [← hj]; congr 1
  simp only [execOp, hq, e1, hi', hy', Instr.entryStore, Sem.run_bind, Result.andThen_ok, run_getObj h1, asInt, asIntOf, Sem.run_pure, hj', run_setObj h1]
def mdel (es : Array MapEntry) : Option (Nat × Value) → Array MapEntry
  | some (i, _) => es.eraseIdxIfInBounds i
  | none => es
theorem val_delete {x i : Operand} {ts : TypeId} {o : Nat} {es : Array MapEntry} {c : Nat} {s : ByteArray} {r : Option (Nat × Value)} (hx : st.ev x = .map o) (hm : st.m.map_ o = some (es, c)) (hi : st.ev i = .v (.string s)) (hr : mlook es s = some r) :
    Val n wr st (.call ⟨.builtin .delete, #[x, i], #[108, ts]⟩) (.tup []) ⟨st.m.objs.set o (.map (mdel es r) c), st.m.rows⟩ := by
  intro κ a w hst
  obtain ⟨b, hb, e1, h1⟩ := map_rel_ hst (hx ▸ hst.ev x) hm
  have hi' := hst.ev i
  rw [hi] at hi'
  simp only [Rel] at hi'
  obtain ⟨g1, g2⟩ := setMap hst (es' := mdel es r) (c' := c) hb h1
  refine ⟨κ, _, .tuple #[], g2, g1, by simp only [Rel, RelL]; exact ⟨_, rfl, rfl⟩, fun q K Q hq hK => wp_value ?_ hK⟩
  have hd : (Builtin.delete_ #[108, ts] q.type #[.map (some b), .string s]).run P w = .ok (.tuple #[]) { w with heap := w.heap.setIfInBounds b (.map (mdel es r) c) } := by
    simp only [Builtin.delete_, List.getElem?_toArray, List.getElem?_cons_zero, List.getElem?_cons_succ, Sem.run_bind, run_underlying und108, Result.andThen_ok, run_getObj h1, run_checkKey, run_findKey hr]
    cases r with
    | none => simp only [run_setObj h1, Sem.run_bind, Result.andThen_ok, mdel, Sem.run_pure]
    | some p => obtain ⟨j, u⟩ := p; simp only [run_setObj h1, Sem.run_bind, Result.andThen_ok, mdel, Sem.run_pure]
  simp only [execOp, hq, e1, hi', resolve, List.map_toArray, List.map_cons, List.map_nil, invoke, builtin, Sem.run_bind, Sem.run_pure, Result.andThen_ok, hd]
end
end Go.Proofs.Ytphjldhdnmoolaa.A
/- Words: append. -/
namespace Go.Proofs.Ytphjldhdnmoolaa.A
open Go
section
variable {n : Nat} {wr : Nat → Prop} {st : St}
/-- A row has grown (j < rows.length) or is new (j = rows.length). -/
theorem StRel.rowStep {κ κ' : K} {a : Act} {w w' : World} (h : StRel n wr κ st a w) (j : Nat) (r' : Row) (old : Option Row) (hj : κ.rows[j]? = old) (hnew : old = none → j = κ.rows.length) (hold : ∀ r, old = some r → r'.E = r.E ∧ r.n < r'.n)
    (hobjs : κ'.objs = κ.objs) (hrows : ∀ i, κ'.rows[i]? = if i = j then some r' else κ.rows[i]?)
    (h1 : w'.os = w.os) (h2 : w'.tape = w.tape) (h3 : w'.output = w.output) (h4 : w.heap.size ≤ w'.heap.size) (heap : ∀ b, b < w.heap.size → (∀ r, old = some r → b ≠ r.b) → w'.heap[b]? = w.heap[b]?)
    (rs0 : ∀ b i, κ.rs b i → κ'.rs b i ∧ w'.cell? ⟨b, i, none⟩ = w.cell? ⟨b, i, none⟩) (rs1 : ∀ b i, κ'.rs b i → κ.rs b i ∨ b = r'.b) (rs2 : ∀ b i, κ'.rs b i → ∃ v, w'.cell? ⟨b, i, none⟩ = some v)
    (hr' : RowOK κ' w' r') (hb : r'.b = w.heap.size ∨ ∃ r, old = some r ∧ r'.b = r.b) :
    ∃ m', m'.objs = st.m.objs ∧ (∀ i, m'.rows[i]? = if i = j then some r'.n else st.m.rows[i]?) ∧ StRel n wr κ' ⟨st.t, m'⟩ a w' ∧ Ev wr κ w κ' w' := by
  have hi := h.inv
  have hle : Le κ w κ' w' := by
    refine ⟨fun o b e => by rw [hobjs]; exact e, fun k r hk => ?_, rs0⟩
    rw [hrows]
    by_cases e : k = j
    · subst e
      rw [hk] at hj
      subst hj
      exact ⟨r', by simp, (hold r rfl).1, .inr (hold r rfl).2⟩
    · exact ⟨r, by rw [if_neg e]; exact hk, rfl, .inl rfl⟩
  have hlt : ∀ {r}, old = some r → r.b < w.heap.size := by
    intro r hr
    obtain ⟨cur, i, g, _⟩ := (hi.row j r (hj.trans hr)).blk
    exact (Array.getElem?_eq_some_iff.1 g).1
  have hwr : wr r'.b := by
    rcases hb with e | ⟨r, hr, e⟩
    · rw [e]; exact hi.wnew _ (Nat.le_refl _)
    · rw [e]; exact hi.wrow j r (hj.trans hr)
  have hobj : ∀ b, b ∈ κ.objs → ∀ r, old = some r → b ≠ r.b := fun b hb r hr e => (hi.row j r (hj.trans hr)).no (e ▸ hb)
  have hother : ∀ k r, k ≠ j → κ.rows[k]? = some r → r.b < w.heap.size ∧ (∀ r0, old = some r0 → r.b ≠ r0.b) := by
    intro k r hk hr
    obtain ⟨cur, i, g, _⟩ := (hi.row k r hr).blk
    exact ⟨(Array.getElem?_eq_some_iff.1 g).1, fun r0 h0 e => hk (hi.rowne k j r r0 hr (hj.trans h0) e)⟩
  refine ⟨⟨st.m.objs, κ'.rows.map Row.n⟩, rfl, fun i => ?_, ⟨⟨by rw [hobjs]; exact hi.len, by rw [hobjs]; exact hi.nodup, ?_, rfl, ?_, ?_, ?_, by rw [hobjs]; exact hi.wobj, ?_, fun b hb => hi.wnew b (Nat.le_trans h4 hb)⟩, h.defers, h.size, fun i => Rel.mono hle _ _ (h.t i)⟩, ⟨h1, h2, h3, h4, ?_, hle⟩⟩
  · show (κ'.rows.map Row.n)[i]? = _
    rw [List.getElem?_map, hrows, hi.rows]
    split
    · rfl
    · rw [List.getElem?_map]
  · intro o b x ho hx
    rw [hobjs] at ho
    have hm := List.mem_of_getElem? ho
    exact (hi.obj o b x ho hx).mono hle (heap b (hi.obj_lt hm) (hobj b hm))
  · intro k r hk
    rw [hrows] at hk
    by_cases e : k = j
    · rw [if_pos e] at hk; cases hk; exact hr'
    · rw [if_neg e] at hk
      have hr := hi.row k r hk
      obtain ⟨cur, i, g1, g2, g3, g4⟩ := hr.blk
      obtain ⟨q1, q2⟩ := hother k r e hk
      refine ⟨by rw [hobjs]; exact hr.no, hr.le, hr.max, cur, i, (heap _ q1 q2).trans g1, g2, g3, fun i' hi' hrs => ?_⟩
      rcases rs1 _ _ hrs with x | x
      · exact g4 i' hi' x
      · rcases hb with e' | ⟨r0, h0, e'⟩
        · omega
        · exact q2 r0 h0 (x.trans e')
  · intro i k r r2 hr hr2 heq
    rw [hrows] at hr hr2
    by_cases e : i = j <;> by_cases e' : k = j
    · exact e.trans e'.symm
    · rw [if_pos e] at hr; rw [if_neg e'] at hr2; cases hr
      obtain ⟨q1, q2⟩ := hother k r2 e' hr2
      rcases hb with x | ⟨r0, h0, x⟩
      · omega
      · exact absurd (heq.symm.trans x) (q2 r0 h0)
    · rw [if_neg e] at hr; rw [if_pos e'] at hr2; cases hr2
      obtain ⟨q1, q2⟩ := hother i r e hr
      rcases hb with x | ⟨r0, h0, x⟩
      · omega
      · exact absurd (heq.trans x) (q2 r0 h0)
    · rw [if_neg e] at hr; rw [if_neg e'] at hr2
      exact hi.rowne i k r r2 hr hr2 heq
  · intro b i hr
    refine ⟨?_, rs2 b i hr⟩
    rw [hobjs]
    rcases rs1 b i hr with x | x
    · exact (hi.rs b i x).1
    · intro hm
      rcases hb with e | ⟨r0, h0, e⟩
      · have := hi.obj_lt hm; omega
      · exact hobj b hm r0 h0 (x.trans e)
  · intro k r hk
    rw [hrows] at hk
    by_cases e : k = j
    · rw [if_pos e] at hk; cases hk; exact hwr
    · rw [if_neg e] at hk; exact hi.wrow k r hk
  · intro b hlt' hn
    refine ⟨heap b hlt' (fun r hr e => hn (e ▸ hi.wrow j r (hj.trans hr))), fun i hrs => ?_⟩
    rcases rs1 b i hrs with x | x
    · exact x
    · exact absurd (x ▸ hwr) hn
/-! append -/
def app (rows : List Nat) (e : TypeId) (nS nX : Nat) (k : SK) : Option (SK × List Nat) :=
  if nX = 0 then some (k, rows) else match k with
  | .full => some (.row rows.length e, rows ++ [nS + nX])
  | .row j E => if E = e ∧ rows[j]? = some nS then some (.row j e, rows.set j (nS + nX)) else none
  | .sh => none
theorem wp_app {o : Oper} {a : Act} {w w' : World} {v vs vx : Value} {s x : Operand} {t : TypeId} {K : Act → World → Prop} {Q : Exit → Act → World → Prop} (ho : o.op = .call ⟨.builtin .append, #[s, x], #[t, t]⟩) (hs : a.eval s = vs) (hx : a.eval x = vx)
    (h : ∀ ty_, (Builtin.append_ #[t, t] ty_ #[vs, vx]).run P w = .ok v w') (hK : K (a.put o.dst v) w') : o.wp P a w K Q := by
  refine wp_value ?_ hK
  simp only [execOp, ho, resolve, List.map_toArray, List.map_cons, List.map_nil, hs, hx, invoke, builtin, Sem.run_bind, Sem.run_pure, Result.andThen_ok, h]
theorem rows_eq {κ : K} {a : Act} {w : World} (h : StRel n wr κ st a w) : st.m.rows.length = κ.rows.length := by rw [h.inv.rows, List.length_map]
theorem mem_ext {m : Mem} {o : List IObj} {r : List Nat} (h1 : m.objs = o) (h2 : ∀ i : Nat, m.rows[i]? = r[i]?) : m = ⟨o, r⟩ := by
  cases m with
  | mk a b => simp only at h1 h2; rw [h1, List.ext_getElem? h2]
theorem fresh_row {κ : K} {a : Act} {w w1 : World} (h : StRel n wr κ st a w) {e nn c sz : Nat} {i : TypeInfo} {cs : Array Value} {L : List IV} (hi : P.info? e = some i) (hisz : i.size = sz) (hw1 : w1 = w.drew.alloc (.cells cs e)) (hL : RelL κ w L (cs.toList.take L.length)) (hlen : L.length = nn * sz) (hcs : cs.size = c * sz) (hc : nn ≤ c) (hmax : c ≤ maxLen)
    (j : Nat) (old : Option Row) (hj : κ.rows[j]? = old) (hnew : old = none → j = κ.rows.length) (hold : ∀ r, old = some r → e = r.E ∧ r.n < nn) :
    ∃ κ' m', m'.objs = st.m.objs ∧ (∀ i, m'.rows[i]? = if i = j then some nn else st.m.rows[i]?) ∧ Ev wr κ w κ' w1 ∧ StRel n wr κ' ⟨st.t, m'⟩ a w1 ∧ Rel κ' w1 (.sl (.row j e) nn L) (.slice (some ⟨w.heap.size, 0, none⟩) nn c) := by
  subst hw1
  have hinv := h.inv
  have hle : L.length ≤ cs.size := by rw [hlen, hcs]; exact Nat.mul_le_mul_right _ hc
  let r' : Row := ⟨w.heap.size, e, nn, c⟩
  let κ' : K := ⟨κ.objs, if j < κ.rows.length then κ.rows.set j r' else κ.rows ++ [r'], fun x q => κ.rs x q ∨ x = w.heap.size ∧ q < L.length⟩
  have hheap : ∀ b, b < w.heap.size → (w.drew.alloc (.cells cs e)).heap[b]? = w.heap[b]? := fun b hb => heap_old w.drew _ b hb
  have hnewb : (w.drew.alloc (.cells cs e)).heap[w.heap.size]? = some (.cells cs e (0, 0)) := heap_alloc_new w.drew _
  have hcell : ∀ q, (w.drew.alloc (.cells cs e)).cell? ⟨w.heap.size, q, none⟩ = cs[q]? := fun q => cell_of_row _ _ _ _ _ _ hnewb
  have hrows : ∀ i, κ'.rows[i]? = if i = j then some r' else κ.rows[i]? := by
    intro i
    show (if j < κ.rows.length then κ.rows.set j r' else κ.rows ++ [r'])[i]? = _
    by_cases hjl : j < κ.rows.length
    · rw [if_pos hjl, List.getElem?_set]
      by_cases e1 : j = i
      · subst e1; simp [hjl]
      · rw [if_neg e1, if_neg (fun q => e1 q.symm)]
    · rw [if_neg hjl]
      have hje : j = κ.rows.length := by
        cases old with
        | none => exact hnew rfl
        | some r => exact absurd (List.getElem?_eq_some_iff.1 hj).1 hjl
      subst hje
      by_cases e1 : i = κ.rows.length
      · subst e1; simp
      · rw [if_neg e1, List.getElem?_append]
        split
        · rfl
        · rename_i hl
          rw [List.getElem?_eq_none (by simp; omega), List.getElem?_eq_none (by omega)]
  obtain ⟨m', g1, g2, g3, g4⟩ := h.rowStep (κ' := κ') (w' := w.drew.alloc (.cells cs e)) j r' old hj hnew hold rfl hrows rfl rfl rfl (by simp) (fun b hb _ => hheap b hb)
    (fun b q hr => ⟨.inl hr, World.cell?_of_block (w := w) (hheap b (hinv.rs_lt hr))⟩)
    (fun b q hr => by
      rcases hr with x | ⟨x, _⟩
      · exact .inl x
      · exact .inr x)
    (fun b q hr => by
      rcases hr with x | ⟨rfl, hq⟩
      · obtain ⟨_, v, hv⟩ := hinv.rs b q x
        exact ⟨v, (World.cell?_of_block (w := w) (a := ⟨b, q, none⟩) (hheap b (hinv.rs_lt x))).trans hv⟩
      · exact ⟨cs[q]'(by omega), by rw [hcell]; exact Array.getElem?_eq_getElem (by omega)⟩)
    ⟨fun hm => by have := hinv.obj_lt hm; exact absurd this (Nat.lt_irrefl _), hc, hmax, cs, i, hnewb, hi, by rw [hisz]; exact hcs, fun q hq hr => by
      rcases hr with x | ⟨_, hq'⟩
      · have := hinv.rs_lt x; exact absurd this (Nat.lt_irrefl _)
      · rw [hisz, ← hlen] at hq; omega⟩
    (.inl rfl)
  refine ⟨κ', m', g1, g2, g4, g3, ?_⟩
  simp only [Rel]
  refine ⟨_, c, rfl, hc, ⟨r', by rw [hrows, if_pos rfl], rfl, Nat.le_refl _, fun _ => ⟨rfl, rfl⟩⟩, .inr ⟨w.heap.size, 0, rfl, RelC.of_get (fun q iv hq => ?_)⟩⟩
  have hql := (List.getElem?_eq_some_iff.1 hq).1
  obtain ⟨v, hv, hr⟩ := hL.get hq
  rw [List.getElem?_take, if_pos hql, Array.getElem?_toList] at hv
  rw [Nat.zero_add]
  exact ⟨.inr ⟨rfl, hql⟩, v, by rw [hcell]; exact hv, Rel.mono g4.le _ _ hr⟩
theorem zc_size (z : Array Value) (k : Nat) : (Builtin.zeroCells z k).size = k * z.size := by simp [Builtin.zeroCells]
/-- A slice whose cells are known, wherever they lie. -/
def XV (n : Nat) (wr : Nat → Prop) (st : St) (x : Operand) (nX : Nat) (lx : List IV) : Prop := ∀ (κ : K) (a : Act) (w : World), StRel n wr κ st a w → ∃ Ax cx, a.eval x = .slice Ax nX cx ∧ nX ≤ cx ∧ (lx = [] ∨ ∃ bx offx, Ax = some ⟨bx, offx, none⟩ ∧ ∃ news : List Value, RelL κ w lx news ∧ ∀ (j : Nat) (v : Value), news[j]? = some v → w.cell? ⟨bx, offx + j, none⟩ = some v)
theorem XV.sl {x : Operand} {kx : SK} {nX : Nat} {lx : List IV} (hX : st.ev x = .sl kx nX lx) : XV n wr st x nX lx := by
  intro κ a w hr
  have hX' := hr.ev x
  rw [hX] at hX'
  simp only [Rel] at hX'
  obtain ⟨Ax, cx, eX, hnx, _, hlX⟩ := hX'
  refine ⟨Ax, cx, eX, hnx, ?_⟩
  rcases hlX with h | ⟨b, off, h, hc⟩
  · exact .inl h
  · exact .inr ⟨b, off, h, hc.vals⟩
theorem XV.vec {x : Operand} {o c nX k : Nat} {L : List IV} (hX : st.ev x = .vec o nX c) (h0 : 0 < nX) (ho : st.m.objs[o]? = some (.cells L)) : XV n wr st x nX (L.take k) := by
  intro κ a w hr
  have hX' := hr.ev x
  rw [hX] at hX'
  simp only [Rel] at hX'
  obtain ⟨hn, ⟨h, _⟩ | ⟨b, hb, e⟩⟩ := hX'
  · omega
  · obtain ⟨arr, T, h1, h2⟩ := hr.inv.obj o b _ hb ho
    refine ⟨_, c, e, hn, .inr ⟨b, 0, rfl, arr.toList.take k, h2.take k, fun j v hv => ?_⟩⟩
    rw [cell_of_row w b (0 + j) arr T (0, 0) h1, Nat.zero_add]
    rw [List.getElem?_take] at hv
    split at hv
    · rw [← Array.getElem?_toList]; exact hv
    · cases hv
set_option maxHeartbeats 1000000 in
theorem val_append {t e sz by_ nS nX : Nat} {ag : Bool} {s x : Operand} {k k' : SK} {l lx : List IV} {rows' : List Nat} (hs : sel t = some e) (he : ty e = some (ag, sz, by_)) (hsz : 0 < sz) (hby : 0 < by_) (hS : st.ev s = .sl k nS l) (hX : XV n wr st x nX lx) (hl : l.length = nS * sz) (hlx : lx.length = nX * sz)
    (hone : lx.all IV.one = true) (hb : (nS + nX) * by_ ≤ 140737488355328) (ha : app st.m.rows e nS nX k = some (k', rows')) :
    Val n wr st (.call ⟨.builtin .append, #[s, x], #[t, t]⟩) (.sl k' (nS + nX) (l ++ lx.map IV.sh)) ⟨st.m.objs, rows'⟩ := by
  intro κ a w hr
  obtain ⟨hu, i, z, hi, hz, hzs⟩ := sel_ok hs
  obtain ⟨⟨i', hi', hsz', hby'⟩, _⟩ := ty_ok he
  rw [hi] at hi'; cases hi'
  have hS' := hr.ev s
  rw [hS] at hS'
  simp only [Rel] at hS'
  obtain ⟨A, c, eS, hnc, hk, hlS⟩ := hS'
  obtain ⟨Ax, cx, eX, hnx, hlX⟩ := hX κ a w hr
  have h63 : nS + nX ≤ 140737488355328 := Nat.le_trans (Nat.le_mul_of_pos_right _ hby) hb
  by_cases h0 : nX = 0
  · subst h0
    have hlx0 : lx = [] := List.eq_nil_of_length_eq_zero (by simpa using hlx)
    subst hlx0
    simp only [app, if_true, Option.some.injEq, Prod.mk.injEq] at ha
    obtain ⟨rfl, rfl⟩ := ha
    refine ⟨κ, w, .slice A nS c, Ev.refl _ _ _, hr, ?_, fun o K Q ho hK => wp_app ho eS eX (fun ty_ => ?_) hK⟩
    · simp only [Rel, List.map_nil, List.append_nil, Nat.add_zero]; exact ⟨A, c, rfl, hnc, hk, hlS⟩
    · have hf : (Builtin.firstCells i.size 0 (.slice Ax 0 cx)).run P w = .ok #[] w := by
        cases Ax with
        | none => rfl
        | some ad => simp [Builtin.firstCells, loadCells, loadCellsFrom]
      cases A with
      | none => simp [Builtin.append_, run_underlying hu, sizeOf, typeInfo, hi, Builtin.lenOf, hnc, hf]
      | some ad => simp [Builtin.append_, run_underlying hu, sizeOf, typeInfo, hi, Builtin.lenOf, hnc, hf, storeCells]
  · have hpos : 0 < nX := Nat.pos_of_ne_zero h0
    rcases hlX with h | ⟨bx, offx, rfl, hcx⟩
    · rw [h] at hlx
      have := Nat.mul_pos hpos hsz
      simp at hlx; omega
    obtain ⟨news, hn1, hn2⟩ := hcx
    have hnl : news.length = nX * i.size := by rw [RelL.length hn1, hlx, hsz']
    have hnews : ∀ j v, news[j]? = some v → w.cell? ((⟨bx, offx, none⟩ : Addr).add j) = some v := fun j v hv => by rw [add_at]; exact hn2 j v hv
    have hone' := all_one hone hn1
    have hzz : z.cells.size = sz := by rw [hzs, hsz']
    -- the elder cells
    obtain ⟨olds, ho1, ho2⟩ : ∃ olds : List Value, RelL κ w l olds ∧ ∀ ad, A = some ad → ∀ j v, olds[j]? = some v → w.cell? (ad.add j) = some v := by
      rcases hlS with rfl | ⟨b, off, rfl, hc⟩
      · exact ⟨[], by simp only [RelL], by simp⟩
      · obtain ⟨vs, g1, g2⟩ := hc.vals
        exact ⟨vs, g1, fun ad ha j v hv => by cases ha; rw [add_at]; exact g2 j v hv⟩
    have hol : olds.length = nS * i.size := by rw [RelL.length ho1, hl, hsz']
    have hLL : RelL κ w (l ++ lx.map IV.sh) (olds ++ news) := ho1.append (shL_rel hn1)
    have hLlen : (l ++ lx.map IV.sh).length = (nS + nX) * sz := by rw [List.length_append, List.length_map, hl, hlx, Nat.add_mul]
    -- a new row
    have grow : c < nS + nX → ∀ (j : Nat) (old : Option Row), κ.rows[j]? = old → (old = none → j = κ.rows.length) → (∀ r, old = some r → e = r.E ∧ r.n < nS + nX) → k' = .row j e → (∀ i, rows'[i]? = if i = j then some (nS + nX) else st.m.rows[i]?) →
        ∃ κ' w' v, Ev wr κ w κ' w' ∧ StRel n wr κ' ⟨st.t, ⟨st.m.objs, rows'⟩⟩ a w' ∧ Rel κ' w' (.sl k' (nS + nX) (l ++ lx.map IV.sh)) v ∧ ∀ (o : Oper) (K : Act → World → Prop) (Q : Exit → Act → World → Prop), o.op = .call ⟨.builtin .append, #[s, x], #[t, t]⟩ → K (a.put o.dst v) w' → o.wp P a w K Q := by
      intro hcap j old hj hnew hold hk' hrows'
      have main : ∀ (cap : Nat) (cs : Array Value), cs = olds.toArray ++ news.toArray ++ Builtin.zeroCells z.cells (cap - (nS + nX)) → nS + nX ≤ cap → cap ≤ maxLen → (∀ ty_, (Builtin.append_ #[t, t] ty_ #[.slice A nS c, .slice (some ⟨bx, offx, none⟩) nX cx]).run P w = .ok (.slice (some ⟨w.heap.size, 0, none⟩) (nS + nX) cap) (w.drew.alloc (.cells cs e))) →
          ∃ κ' w' v, Ev wr κ w κ' w' ∧ StRel n wr κ' ⟨st.t, ⟨st.m.objs, rows'⟩⟩ a w' ∧ Rel κ' w' (.sl k' (nS + nX) (l ++ lx.map IV.sh)) v ∧ ∀ (o : Oper) (K : Act → World → Prop) (Q : Exit → Act → World → Prop), o.op = .call ⟨.builtin .append, #[s, x], #[t, t]⟩ → K (a.put o.dst v) w' → o.wp P a w K Q := by
        intro cap cs hcs hge hmx hrun
        have hcsl : cs.toList = (olds ++ news) ++ (Builtin.zeroCells z.cells (cap - (nS + nX))).toList := by rw [hcs]; simp
        have hon : (olds ++ news).length = (nS + nX) * sz := by rw [← hLlen]; exact RelL.length hLL
        have hcsz : cs.size = cap * sz := by
          rw [← Array.length_toList, hcsl, List.length_append, hon, Array.length_toList, zc_size, hzz, ← Nat.add_mul, show nS + nX + (cap - (nS + nX)) = cap by omega]
        obtain ⟨κ', m', g1, g2, g3, g4, g5⟩ := fresh_row hr (e := e) (nn := nS + nX) (c := cap) (sz := sz) (i := i) (cs := cs) (L := l ++ lx.map IV.sh) hi hsz' rfl (by rw [hcsl, hLlen, ← hon, List.take_left]; exact hLL) hLlen hcsz hge hmx j old hj hnew hold
        have hm : m' = ⟨st.m.objs, rows'⟩ := mem_ext g1 (fun i => by rw [g2, hrows'])
        subst hm
        exact ⟨κ', _, _, g3, g4, hk' ▸ g5, fun o K Q ho hK => wp_app ho eS eX hrun hK⟩
      cases A with
      | none =>
        have hl0 : l = [] := by
          rcases hlS with h | ⟨b, off, h, _⟩
          · exact h
          · cases h
        subst hl0
        have hnS : nS = 0 := by
          rcases Nat.eq_zero_or_pos nS with h | h
          · exact h
          · have := Nat.mul_pos h hsz; simp at hl; omega
        subst hnS
        have hc0 : c = 0 ∨ 0 < c := Nat.eq_zero_or_pos c
        rcases hc0 with rfl | hc0
        · have hn := fun ty_ => run_append_nil (P := P) w t ty_ e i z hu hi hz ⟨bx, offx, none⟩ nX cx news hnl hnews hpos (by omega) (by rw [hby']; simp only [Nat.zero_add] at hb; omega)
          have hol0 : olds = [] := List.eq_nil_of_length_eq_zero (by simpa using hol)
          subst hol0
          refine main (grownCap w nX 0 e) _ rfl (by simpa using grownCap_ge w nX 0 e) (grownCap_le_maxLen w nX 0 e (by unfold maxLen; omega)) (fun ty_ => ?_)
          have := hn ty_
          simpa using this
        · -- a nil address with room: the model's 'append' still grows, its elder cells none
          exact absurd hk (by
            intro hk
            cases k with
            | sh => simp [app, h0] at ha
            | full => have : c = 0 := hk; omega
            | row j2 E2 =>
              obtain ⟨r, q1, q2, q3, q4⟩ := hk
              simp only [app, if_neg h0] at ha
              split at ha
              · rename_i hc
                have hrn : st.m.rows[j2]? = some r.n := by rw [hr.inv.rows, List.getElem?_map, q1]; rfl
                rw [hrn] at hc
                have hh : r.n = 0 := by simpa using hc.2
                have := (q4 hh.symm).1
                cases this
              · cases ha)
      | some ad =>
        have hg := fun ty_ => run_append_grow (P := P) w t ty_ e i z hu hi hz ad nS c olds hol (ho2 ad rfl) ⟨bx, offx, none⟩ nX cx news hnl hnews hcap (by omega) (growslice_fits hcap (by rw [hby']; exact hb))
        exact main (grownCap w (nS + nX) c e) _ rfl (grownCap_ge w (nS + nX) c e) (grownCap_le_maxLen w (nS + nX) c e (by unfold maxLen; omega)) hg
    cases k with
    | sh => simp [app, h0] at ha
    | full =>
      simp only [app, if_neg h0, Option.some.injEq, Prod.mk.injEq] at ha
      obtain ⟨rfl, rfl⟩ := ha
      have hcn : c = nS := hk
      refine grow (by omega) st.m.rows.length none ?_ (fun _ => rows_eq hr) (fun r h => by cases h) rfl (fun i => ?_)
      · rw [rows_eq hr]; simp
      · by_cases e1 : i = st.m.rows.length
        · subst e1; simp
        · rw [if_neg e1, List.getElem?_append]
          split
          · rfl
          · rw [List.getElem?_eq_none (by simp; omega), List.getElem?_eq_none (by omega)]
    | row j E =>
      simp only [app, if_neg h0] at ha
      split at ha
      · rename_i hc
        obtain ⟨rfl, hjn⟩ := hc
        simp only [Option.some.injEq, Prod.mk.injEq] at ha
        obtain ⟨rfl, rfl⟩ := ha
        obtain ⟨r, q1, q2, q3, q4⟩ := hk
        have hrn : st.m.rows[j]? = some r.n := by rw [hr.inv.rows, List.getElem?_map, q1]; rfl
        rw [hrn] at hjn
        have hnr : nS = r.n := by simpa using hjn.symm
        obtain ⟨rfl, hcr⟩ := q4 hnr
        have hjl : j < st.m.rows.length := (List.getElem?_eq_some_iff.1 hrn).1
        have hrows' : ∀ i, (st.m.rows.set j (nS + nX))[i]? = if i = j then some (nS + nX) else st.m.rows[i]? := by
          intro i
          rw [List.getElem?_set]
          by_cases e1 : j = i
          · subst e1; simp [hjl]
          · rw [if_neg e1, if_neg (fun q => e1 q.symm)]
        by_cases hroom : nS + nX ≤ c
        · -- in place
          have hrow := hr.inv.row j r q1
          obtain ⟨cur, i2, b1, b2, b3, b4⟩ := hrow.blk
          rw [q2, hi] at b2
          cases b2
          rw [q2] at b1
          rw [hsz'] at b3 b4
          have hLl : l.length = r.n * sz := by rw [hl, hnr]
          have hfit : nS * i.size + news.length ≤ cur.size := by rw [hnl, hsz', ← Nat.add_mul, b3, ← hcr]; exact Nat.mul_le_mul_right _ hroom
          have hrun := fun ty_ => run_append_room (P := P) w t ty_ E i hu hi r.b nS c cur b1 ⟨bx, offx, none⟩ nX cx news hnl hnews hone' hroom hfit
          have hnl' : news.length = nX * sz := by rw [hnl, hsz']
          generalize hcs : (cur.toList.take (nS * i.size) ++ news ++ cur.toList.drop (nS * i.size + news.length)).toArray = cs at hrun
          have hcsl : cs.toList = cur.toList.take (nS * sz) ++ news ++ cur.toList.drop (nS * sz + news.length) := by rw [← hcs, hsz']
          have hcss : cs.size = cur.size := by
            rw [← Array.length_toList, hcsl]
            simp only [List.length_append, List.length_take, List.length_drop, Array.length_toList]
            rw [hsz'] at hfit
            omega
          have hlow : ∀ q, q < nS * sz → cs[q]? = cur[q]? := by
            intro q hq
            rw [← Array.getElem?_toList, hcsl, List.append_assoc, List.getElem?_append_left (by rw [List.length_take, Array.length_toList]; rw [hsz'] at hfit; omega), List.getElem?_take, if_pos hq, Array.getElem?_toList]
          have hmid : ∀ q, q < nX * sz → cs[nS * sz + q]? = news[q]? := by
            intro q hq
            have ht : (cur.toList.take (nS * sz)).length = nS * sz := by rw [List.length_take, Array.length_toList]; rw [hsz'] at hfit; omega
            rw [← Array.getElem?_toList, hcsl, List.append_assoc, List.getElem?_append_right (by omega), ht, Nat.add_sub_cancel_left, List.getElem?_append_left (by omega)]
          have hb2 : (w.setRow r.b cs).heap[r.b]? = some (.cells cs E (0, 0)) := setRow_heap w r.b cur cs E (0, 0) b1
          have hcell : ∀ q, (w.setRow r.b cs).cell? ⟨r.b, q, none⟩ = cs[q]? := fun q => cell_of_row _ _ _ _ _ _ hb2
          let r' : Row := ⟨r.b, E, nS + nX, c⟩
          let κ' : K := ⟨κ.objs, κ.rows.set j r', fun b q => κ.rs b q ∨ b = r.b ∧ q < (nS + nX) * sz⟩
          have hκr : ∀ i, κ'.rows[i]? = if i = j then some r' else κ.rows[i]? := by
            intro i
            show (κ.rows.set j r')[i]? = _
            rw [List.getElem?_set]
            by_cases e1 : j = i
            · subst e1; rw [if_pos rfl, if_pos (by rw [← rows_eq hr]; exact hjl), if_pos rfl]
            · rw [if_neg e1, if_neg (fun q => e1 q.symm)]
          have hrs0 : ∀ b q, κ.rs b q → κ'.rs b q ∧ (w.setRow r.b cs).cell? ⟨b, q, none⟩ = w.cell? ⟨b, q, none⟩ := by
            intro b q hq
            refine ⟨.inl hq, ?_⟩
            by_cases e1 : b = r.b
            · subst e1
              have hlt : q < nS * sz := by
                rcases Nat.lt_or_ge q (nS * sz) with h | h
                · exact h
                · exact absurd hq (b4 q (by rw [← hnr]; exact h))
              rw [hcell, hlow q hlt, cell_of_row w r.b q cur E (0, 0) b1]
            · exact World.cell?_of_block (w := w) (a := ⟨b, q, none⟩) (setRow_other w r.b b cs e1)
          obtain ⟨m', g1, g2, g3, g4⟩ := hr.rowStep (κ' := κ') (w' := w.setRow r.b cs) j r' (some r) q1 (fun h => by cases h) (fun r0 h0 => by cases h0; exact ⟨q2.symm, by show r.n < nS + nX; omega⟩) rfl hκr rfl rfl rfl (by simp) (fun b _ hb => setRow_other w r.b b cs (hb r rfl))
            hrs0 (fun b q hq => by
              rcases hq with x | ⟨x, _⟩
              · exact .inl x
              · exact .inr x)
            (fun b q hq => by
              rcases hq with x | ⟨rfl, hq⟩
              · obtain ⟨_, v, hv⟩ := hr.inv.rs b q x
                exact ⟨v, (hrs0 b q x).2.trans hv⟩
              · have hlt : q < cs.size := by
                  rw [hcss, b3, ← hcr]
                  exact Nat.lt_of_lt_of_le hq (Nat.mul_le_mul_right _ hroom)
                exact ⟨cs[q], by rw [hcell]; exact Array.getElem?_eq_getElem hlt⟩)
            ⟨hrow.no, hroom, (by show c ≤ maxLen; rw [hcr]; exact hrow.max), cs, i, hb2, hi, by rw [hcss, b3, hsz', ← hcr], fun q hq hx => by
              rw [hsz'] at hq
              rcases hx with x | ⟨_, hx⟩
              · have h1 : r.n * sz ≤ (nS + nX) * sz := Nat.mul_le_mul_right _ (by omega)
                exact b4 q (Nat.le_trans h1 hq) x
              · have : (nS + nX) * sz ≤ q := hq
                omega⟩
            (.inr ⟨r, rfl, rfl⟩)
          have hm : m' = ⟨st.m.objs, st.m.rows.set j (nS + nX)⟩ := mem_ext g1 (fun i => by rw [g2, hrows'])
          subst hm
          refine ⟨κ', _, .slice (some ⟨r.b, 0, none⟩) (nS + nX) c, g4, g3, ?_, fun o K Q ho hK => wp_app ho eS eX hrun hK⟩
          simp only [Rel]
          refine ⟨_, c, rfl, hroom, ⟨r', by rw [hκr, if_pos rfl], rfl, Nat.le_refl _, fun _ => ⟨rfl, rfl⟩⟩, .inr ⟨r.b, 0, rfl, RelC.of_get (fun q iv hq => ?_)⟩⟩
          have hql := (List.getElem?_eq_some_iff.1 hq).1
          rw [hLlen] at hql
          rw [Nat.zero_add]
          refine ⟨.inr ⟨rfl, hql⟩, ?_⟩
          rcases Nat.lt_or_ge q (nS * sz) with hlt | hge
          · rw [List.getElem?_append_left (by rw [hl]; exact hlt)] at hq
            rcases hlS with h | ⟨b, off, h, hc⟩
            · rw [h] at hq; simp at hq
            · cases h
              obtain ⟨_, v, hv, hrel⟩ := hc.get hq
              rw [Nat.zero_add] at hv
              refine ⟨v, ?_, Rel.mono g4.le _ _ hrel⟩
              rw [hcell, hlow q hlt, ← cell_of_row w r.b q cur E (0, 0) b1]; exact hv
          · have hqs : q = nS * sz + (q - nS * sz) := by omega
            rw [List.getElem?_append_right (by rw [hl]; exact hge), hl] at hq
            have hlt2 : q - nS * sz < nX * sz := by rw [Nat.add_mul] at hql; omega
            obtain ⟨v, hv, hrel⟩ := (shL_rel hn1).get hq
            refine ⟨v, ?_, Rel.mono g4.le _ _ hrel⟩
            rw [hcell, hqs, hmid _ hlt2]; exact hv
        · exact grow (by omega) j (some r) q1 (fun h => by cases h) (fun r0 h0 => by cases h0; exact ⟨q2.symm, by omega⟩) rfl hrows'
      · cases ha
/-! a vector: a slice over a block that is an object -/
def vecR (st : St) (o nS c nX sz : Nat) (L new : List IV) (x : IV) (m' : Mem) : Prop :=
  (nS + nX ≤ c ∧ x = .vec o (nS + nX) c ∧ m' = ⟨st.m.objs.set o (.cells (splice L (nS * sz) new)), st.m.rows⟩) ∨
  (c < nS + nX ∧ ∃ cap, nS + nX ≤ cap ∧ x = .vec st.m.objs.length (nS + nX) cap ∧ m' = ⟨st.m.objs ++ [.cells (L.take (nS * sz) ++ new ++ List.replicate ((cap - (nS + nX)) * sz) .any)], st.m.rows⟩)
/-- An operation that may come out in several ways. -/
def ValN (n : Nat) (wr : Nat → Prop) (st : St) (op : Op) (R : IV → Mem → Prop) : Prop := ∀ (κ : K) (a : Act) (w : World), StRel n wr κ st a w → ∃ κ' w' v x m', R x m' ∧ Ev wr κ w κ' w' ∧ StRel n wr κ' ⟨st.t, m'⟩ a w' ∧ Rel κ' w' x v ∧ ∀ (o : Oper) (K : Act → World → Prop) (Q : Exit → Act → World → Prop), o.op = op → K (a.put o.dst v) w' → o.wp P a w K Q
theorem any_rel {κ : K} {w : World} : ∀ (l : List Value), RelL κ w (List.replicate l.length .any) l
  | [] => by simp only [List.length_nil, List.replicate_zero, RelL]
  | v :: l => by simp only [List.length_cons, List.replicate_succ, RelL]; exact ⟨v, l, rfl, by simp only [Rel], any_rel l⟩
theorem StRel.drew {κ : K} {a : Act} {w : World} (h : StRel n wr κ st a w) : StRel n wr κ st a w.drew ∧ Ev wr κ w κ w.drew := by
  have g := grow_drew κ w (fun b j => h.inv.rs_lt)
  exact ⟨h.grow g, g.ev h.inv⟩
theorem run_append_at (w : World) (t ty_ e T : TypeId) (i : TypeInfo) (ht : P.underlying t = some (.slice e)) (hi : P.info? e = some i)
    (g sLen sCap : Nat) (cur : Array Value) (hg : w.heap[g]? = some (.cells cur T (0, 0)))
    (a : Addr) (m c : Nat) (news : List Value) (hl : news.length = m * i.size) (hnews : ∀ j u, news[j]? = some u → w.cell? (a.add j) = some u) (h1 : ∀ u ∈ news, u.oneCell' = true)
    (hroom : sLen + m ≤ sCap) (hfit : sLen * i.size + news.length ≤ cur.size) :
    (Builtin.append_ #[t, t] ty_ #[.slice (some ⟨g, 0, none⟩) sLen sCap, .slice (some a) m c]).run P w =
      .ok (.slice (some ⟨g, 0, none⟩) (sLen + m) sCap) (w.setRow g (cur.toList.take (sLen * i.size) ++ news ++ cur.toList.drop (sLen * i.size + news.length)).toArray) := by
  have hf := run_firstCells_some (P := P) w i.size m a m c news hl hnews
  have hst := run_storeCells_at P g (sLen * i.size) T news 0 cur w hg (by simpa using hfit) h1
  simp only [Nat.add_zero] at hst
  simp [Builtin.append_, run_underlying ht, sizeOf, typeInfo, hi, Builtin.lenOf, hroom, hf, Addr.add_lit, hst]
set_option maxHeartbeats 1000000 in
theorem val_appendVec {t e sz by_ o nS c nX : Nat} {ag : Bool} {s x : Operand} {kx : SK} {L lx : List IV} (hs : sel t = some e) (he : ty e = some (ag, sz, by_)) (hsz : 0 < sz) (hby : 0 < by_) (hS : st.ev s = .vec o nS c) (hX : st.ev x = .sl kx nX lx) (hL : c = 0 ∧ L = [] ∨ 0 < c ∧ st.m.objs[o]? = some (.cells L) ∧ L.length = c * sz) (h0 : 0 < nX) (hlx : lx.length = nX * sz)
    (hone : lx.all IV.one = true) (hb : (nS + nX) * by_ ≤ 140737488355328) :
    ValN n wr st (.call ⟨.builtin .append, #[s, x], #[t, t]⟩) (vecR st o nS c nX sz L (lx.map IV.sh)) := by
  intro κ a w hr
  obtain ⟨hu, i, z, hi, hz, hzs⟩ := sel_ok hs
  obtain ⟨⟨i', hi', hsz', hby'⟩, _⟩ := ty_ok he
  rw [hi] at hi'; cases hi'
  have hS' := hr.ev s
  rw [hS] at hS'
  simp only [Rel] at hS'
  obtain ⟨hnc, hS'⟩ := hS'
  obtain ⟨Ax, cx, eX, hnx, hlX⟩ := XV.sl (n := n) (wr := wr) hX κ a w hr
  have h63 : nS + nX ≤ 140737488355328 := Nat.le_trans (Nat.le_mul_of_pos_right _ hby) hb
  rcases hlX with h | ⟨bx, offx, rfl, news, hn1, hn2⟩
  · rw [h] at hlx
    have := Nat.mul_pos h0 hsz
    simp at hlx; omega
  have hnl : news.length = nX * i.size := by rw [RelL.length hn1, hlx, hsz']
  have hnews : ∀ j v, news[j]? = some v → w.cell? ((⟨bx, offx, none⟩ : Addr).add j) = some v := fun j v hv => by rw [add_at]; exact hn2 j v hv
  have hone' := all_one hone hn1
  have hzz : z.cells.size = sz := by rw [hzs, hsz']
  -- a new block
  have main : ∀ (A : Option Addr) (olds : List Value) (cap : Nat) (cs : Array Value), a.eval s = .slice A nS c → RelL κ w (L.take (nS * sz)) olds → cs = olds.toArray ++ news.toArray ++ Builtin.zeroCells z.cells (cap - (nS + nX)) → nS + nX ≤ cap → c < nS + nX → (∀ ty_, (Builtin.append_ #[t, t] ty_ #[.slice A nS c, .slice (some ⟨bx, offx, none⟩) nX cx]).run P w = .ok (.slice (some ⟨w.heap.size, 0, none⟩) (nS + nX) cap) (w.drew.alloc (.cells cs e))) →
      ∃ κ' w' v x_ m', vecR st o nS c nX sz L (lx.map IV.sh) x_ m' ∧ Ev wr κ w κ' w' ∧ StRel n wr κ' ⟨st.t, m'⟩ a w' ∧ Rel κ' w' x_ v ∧ ∀ (o : Oper) (K : Act → World → Prop) (Q : Exit → Act → World → Prop), o.op = .call ⟨.builtin .append, #[s, x], #[t, t]⟩ → K (a.put o.dst v) w' → o.wp P a w K Q := by
    intro A olds cap cs eS hol hcs hge hlt hrun
    obtain ⟨d1, d2⟩ := hr.drew
    have hcl : cs.toList = (olds ++ news) ++ (Builtin.zeroCells z.cells (cap - (nS + nX))).toList := by rw [hcs]; simp
    have hzl : (Builtin.zeroCells z.cells (cap - (nS + nX))).toList.length = (cap - (nS + nX)) * sz := by rw [Array.length_toList, zc_size, hzz]
    have hrel : RelL κ w (L.take (nS * sz) ++ lx.map IV.sh ++ List.replicate ((cap - (nS + nX)) * sz) .any) cs.toList := by
      rw [hcl]
      refine (hol.append (shL_rel hn1)).append ?_
      rw [← hzl]; exact any_rel _
    obtain ⟨g1, g2⟩ := d1.newObj (.cells cs e) (.cells (L.take (nS * sz) ++ lx.map IV.sh ++ List.replicate ((cap - (nS + nX)) * sz) .any)) (fun κ' hle => ⟨cs, e, heap_alloc_new w.drew _, RelL.mono (d2.le.trans hle) _ _ hrel⟩)
    refine ⟨_, _, .slice (some ⟨w.heap.size, 0, none⟩) (nS + nX) cap, _, _, .inr ⟨hlt, cap, hge, rfl, rfl⟩, d2.trans g2, g1, ?_, fun o K Q ho hK => wp_app ho eS eX hrun hK⟩
    simp only [Rel]
    refine ⟨hge, .inr ⟨w.heap.size, ?_, rfl⟩⟩
    rw [← hr.inv.len]
    show (κ.objs ++ [w.heap.size])[κ.objs.length]? = _
    simp
  rcases hS' with ⟨rfl, A, eS⟩ | ⟨b, hbo, eS⟩
  · have hn0 : nS = 0 := by omega
    subst hn0
    have hL0 : L = [] := by
      rcases hL with h | h
      · exact h.2
      · omega
    subst hL0
    cases A with
    | none =>
      refine main none [] (grownCap w nX 0 e) _ eS (by simp [RelL]) rfl (by simpa using grownCap_ge w nX 0 e) (by omega) (fun ty_ => ?_)
      have hn := run_append_nil (P := P) w t ty_ e i z hu hi hz ⟨bx, offx, none⟩ nX cx news hnl hnews h0 (by omega) (by rw [hby']; simp only [Nat.zero_add] at hb; omega)
      simpa using hn
    | some ad =>
      exact main (some ad) [] (grownCap w (0 + nX) 0 e) _ eS (by simp [RelL]) rfl (grownCap_ge w (0 + nX) 0 e) (by omega) (fun ty_ => run_append_grow (P := P) w t ty_ e i z hu hi hz ad 0 0 [] (by simp) (by simp) ⟨bx, offx, none⟩ nX cx news hnl hnews (by omega) (by omega) (growslice_fits (by omega) (by rw [hby']; exact hb)))
  · by_cases hc0 : c = 0
    · subst hc0
      have hn0 : nS = 0 := by omega
      subst hn0
      have hL0 : L = [] := by
        rcases hL with h | h
        · exact h.2
        · omega
      subst hL0
      exact main _ [] (grownCap w (0 + nX) 0 e) _ eS (by simp [RelL]) rfl (grownCap_ge w (0 + nX) 0 e) (by omega) (fun ty_ => run_append_grow (P := P) w t ty_ e i z hu hi hz _ 0 0 [] (by simp) (by simp) ⟨bx, offx, none⟩ nX cx news hnl hnews (by omega) (by omega) (growslice_fits (by omega) (by rw [hby']; exact hb)))
    obtain ⟨_, ho, hLl⟩ : 0 < c ∧ st.m.objs[o]? = some (.cells L) ∧ L.length = c * sz := by
      rcases hL with h | h
      · omega
      · exact h
    obtain ⟨arr, T, h1, h2⟩ := hr.inv.obj o b _ hbo ho
    have hal := RelL.length h2
    rw [Array.length_toList] at hal
    have hnsz : nS * sz ≤ arr.size := by rw [hal, hLl]; exact Nat.mul_le_mul_right _ hnc
    by_cases hroom : nS + nX ≤ c
    · have hfit : nS * i.size + news.length ≤ arr.size := by rw [hnl, hsz', ← Nat.add_mul, hal, hLl]; exact Nat.mul_le_mul_right _ hroom
      have hrun := fun ty_ => run_append_at w t ty_ e T i hu hi b nS c arr h1 ⟨bx, offx, none⟩ nX cx news hnl hnews hone' hroom hfit
      rw [hsz'] at hrun
      have hsp := splice_rel h2 (shL_rel hn1) (nS * sz)
      obtain ⟨g1, g2⟩ := hr.setObj (w' := w.setRow b (arr.toList.take (nS * sz) ++ news ++ arr.toList.drop (nS * sz + news.length)).toArray) hbo (.cells (splice L (nS * sz) (lx.map IV.sh))) rfl rfl rfl (by simp) (fun k hk => setRow_other w b k _ hk)
        (fun hle => ⟨_, T, setRow_heap w b arr _ T (0, 0) h1, RelL.mono hle _ _ (by simpa using hsp)⟩)
      refine ⟨κ, _, .slice (some ⟨b, 0, none⟩) (nS + nX) c, _, _, .inl ⟨hroom, rfl, rfl⟩, g2, g1, ?_, fun o K Q ho hK => wp_app ho eS eX hrun hK⟩
      simp only [Rel]
      exact ⟨hroom, .inr ⟨b, hbo, rfl⟩⟩
    · have holds : ∀ j v, (arr.toList.take (nS * sz))[j]? = some v → w.cell? ((⟨b, 0, none⟩ : Addr).add j) = some v := fun j v hv => by
        rw [add_at, Nat.zero_add, cell_of_row w b j arr T (0, 0) h1]
        rw [List.getElem?_take] at hv
        split at hv
        · rw [← Array.getElem?_toList]; exact hv
        · cases hv
      have hol : (arr.toList.take (nS * sz)).length = nS * i.size := by rw [hsz', List.length_take, Array.length_toList]; omega
      exact main _ (arr.toList.take (nS * sz)) (grownCap w (nS + nX) c e) _ eS (h2.take _) rfl (grownCap_ge w (nS + nX) c e) (by omega) (fun ty_ => run_append_grow (P := P) w t ty_ e i z hu hi hz ⟨b, 0, none⟩ nS c _ hol holds ⟨bx, offx, none⟩ nX cx news hnl hnews (by omega) (by omega) (growslice_fits (by omega) (by rw [hby']; exact hb)))
/-- Is a slice none? Of an empty one nothing is known. -/
def nilR (st : St) (l : List IV) (x : IV) (m' : Mem) : Prop := m' = st.m ∧ ∃ b, x = .v (.bool b) ∧ (l ≠ [] → b = false)
theorem q_sl {t e : TypeId} (u : P.underlying t = some (.slice e)) (d : Nat) (A : Option Addr) (m c : Nat) (w : World) : (Op.equalIn (d + 1) t (.slice A m c) (.slice none 0 0)).run P w = .ok A.isNone w := by
  cases A <;> simp only [Op.equalIn, Sem.run_bind, run_underlying u, Result.andThen_ok, Sem.run_pure] <;> rfl
theorem val_nil {t t' e : TypeId} {x : Operand} {k : SK} {m : Nat} {l : List IV} (hs : sel t = some e) (hx : st.ev x = .sl k m l) : ValN n wr st (.binOp .eql t x (.const (.slice none 0 0)) t') (nilR st l) := by
  intro κ a w hr
  have hx' := hr.ev x
  rw [hx] at hx'
  simp only [Rel] at hx'
  obtain ⟨A, c, e1, _, _, h3⟩ := hx'
  have u := (sel_ok hs).1
  have hq : (Op.equalIn 10000 t (.slice A m c) (.slice none 0 0)).run P w = .ok A.isNone w := q_sl u 9999 A m c w
  have hrun := eq_of' false t x (.const (.slice none 0 0)) (x := .slice A m c) (y := .slice none 0 0) (b := A.isNone) (w := w) (fun op => by cases op <;> rfl) hq ⟨rfl, rfl⟩
  refine ⟨κ, w, .bool A.isNone, .v (.bool A.isNone), st.m, ⟨rfl, _, rfl, fun hl => ?_⟩, Ev.refl _ _ _, hr, by simp only [Rel], fun o K Q ho hK => wp_value ?_ hK⟩
  · rcases h3 with h3 | ⟨b, off, h3, _⟩
    · exact absurd h3 hl
    · rw [h3]; rfl
  · simp only [eqop, Bool.false_eq_true, if_false, Sem.run_bind] at hrun
    simp only [execOp, ho, Sem.run_bind, e1, show (a.eval (.const (.slice none 0 0))) = .slice none 0 0 from rfl]
    rw [hrun]; rfl
/-! vectors: how many, which -/
theorem val_lenVec {t ty_ e : TypeId} {x : Operand} {o m c : Nat} (hs : sel t = some e) (hx : st.ev x = .vec o m c) : Val n wr st (.call ⟨.builtin .len, #[x], #[t]⟩) (.v (.int .i64 m)) st.m :=
  Val.pure fun κ ac w hr => by
    have hx' := hr.ev x
    rw [hx] at hx'
    simp only [Rel] at hx'
    obtain ⟨A, e1⟩ : ∃ A, ac.eval x = .slice A m c := by
      obtain ⟨hn, ⟨hc, A, h⟩ | ⟨b, _, h⟩⟩ := hx'
      · exact ⟨A, by rw [h, hc, show m = 0 by omega]⟩
      · exact ⟨_, h⟩
    have u := (sel_ok hs).1
    refine ⟨.int .i64 m, by simp only [Rel], fun o ho => ?_⟩
    simp [execOp, ho, resolve, invoke, builtin, Builtin.len_, run_underlying u, e1, goInt]
theorem val_indexVec {t e sz by_ : Nat} {ag : Bool} {x i : Operand} {o m c : Nat} {j : Int} (hs : sel t = some e) (he : ty e = some (ag, sz, by_)) (hx : st.ev x = .vec o m c) (hi : st.ev i = .v (.int .i64 j)) (h0 : 0 ≤ j) (h1 : j < m) :
    Val n wr st (.indexAddr t x i) (.ptr o (j.toNat * sz)) st.m :=
  Val.pure fun κ a w hr => by
    have hx' := hr.ev x
    have hi' := hr.ev i
    rw [hx] at hx'; rw [hi] at hi'
    simp only [Rel] at hx' hi'
    obtain ⟨hn, ⟨hc, A, h⟩ | ⟨b, hb, e1⟩⟩ := hx'
    · omega
    refine ⟨.pointer (some ⟨b, j.toNat * sz, none⟩), by simp only [Rel]; exact ⟨b, hb, rfl⟩, fun o ho => ?_⟩
    simp [execOp, ho, e1, hi', Instr.indexAt, asIntOf, run_underlying (sel_ok hs).1, h0, h1, run_sizeOf he, add_at]
end
end Go.Proofs.Ytphjldhdnmoolaa.A
/- Words: the abstract machine's steps; code without loops; calls. -/
namespace Go.Proofs.Ytphjldhdnmoolaa.A
open Go
def isRo (ro : List Nat) : Option Tmp → Bool
  | some d => ro.contains d
  | none => false
structure Res where
  p : Prop
  x : IV
  m : Mem
def wh (p : Prop) : Option Res → Option Res
  | some r => some ⟨p ∧ r.p, r.x, r.m⟩
  | none => none
theorem wh_some {p : Prop} {r : Option Res} {q : Res} (h : wh p r = some q) : ∃ q', r = some q' ∧ q = ⟨p ∧ q'.p, q'.x, q'.m⟩ := by
  cases r with
  | none => cases h
  | some r => cases h; exact ⟨r, rfl, rfl⟩
def stepB (st : St) (b : Builtin) (args : List Operand) (ts : List TypeId) : Option Res := match b, args, ts with
  | .len, [x], [t] => match st.ev x with
    | .sl _ m _ => (match sel t with | some _ => some ⟨True, (.v (.int .i64 m)), st.m⟩ | none => none)
    | .vec _ m _ => (match sel t with | some _ => some ⟨True, (.v (.int .i64 m)), st.m⟩ | none => none)
    | .v (.string s) => some ⟨t = 9, (.v (.int .i64 s.size)), st.m⟩
    | .map o => wh (t = 108) (match st.m.map_ o with | some (es, _) => some ⟨True, (.v (.int .i64 es.size)), st.m⟩ | none => none)
    | _ => none
  | .max, [x, y], _ => match st.ev x, st.ev y with
    | .v (.int k a), .v (.int _ b) => some ⟨True, (.v (.int k (if a < b then b else a))), st.m⟩
    | _, _ => none
  | .min, [x, y], _ => match st.ev x, st.ev y with
    | .v (.int k a), .v (.int _ b) => some ⟨True, (.v (.int k (if b < a then b else a))), st.m⟩
    | _, _ => none
  | .delete, [x, i], [t, _] => match st.ev x, st.ev i with
    | .map o, .v (.string s) => wh (t = 108) (match st.m.map_ o with
      | some (es, c) => (match mlook es s with
        | some r => some ⟨True, (.tup []), ⟨st.m.objs.set o (.map (mdel es r) c), st.m.rows⟩⟩
        | none => none)
      | none => none)
    | _, _ => none
  | .append, [s, x], [t, t'] => wh (t = t') (match st.ev s, st.ev x with
    | .sl k nS l, .sl _ nX lx => (match sel t with
      | some e => match ty e with
        | some (_, sz, by_) => wh (0 < sz ∧ 0 < by_ ∧ l.length = nS * sz ∧ lx.length = nX * sz ∧ lx.all IV.one = true ∧ (nS + nX) * by_ ≤ 140737488355328)
          (match app st.m.rows e nS nX k with | some (k', rows') => some ⟨True, (.sl k' (nS + nX) (l ++ lx.map IV.sh)), ⟨st.m.objs, rows'⟩⟩ | none => none)
        | none => none
      | none => none)
    | .sl k nS l, .vec o nX _ => (match sel t with
      | some e => match ty e with
        | some (_, sz, by_) => match st.m.objs[o]? with
          | some (.cells L) => wh (0 < sz ∧ 0 < by_ ∧ l.length = nS * sz ∧ nX * sz ≤ L.length ∧ 0 < nX ∧ (L.take (nX * sz)).all IV.one = true ∧ (nS + nX) * by_ ≤ 140737488355328)
            (match app st.m.rows e nS nX k with | some (k', rows') => some ⟨True, (.sl k' (nS + nX) (l ++ (L.take (nX * sz)).map IV.sh)), ⟨st.m.objs, rows'⟩⟩ | none => none)
          | _ => none
        | none => none
      | none => none)
    | _, _ => none)
  | _, _, _ => none
/-- One operation that is no call: what it asks, its value, the memory behind it. -/
def stepR (ro : List Nat) (dst : Option Tmp) (st : St) : Op → Option Res
  | .move x => some ⟨True, (st.ev x), st.m⟩
  | .assign x => some ⟨True, (st.ev x), st.m⟩
  | .pick c x y => match st.ev c with
    | .v (.bool b) => some ⟨True, (if b then st.ev x else st.ev y), st.m⟩
    | _ => none
  | .alloc t => match zer t with
    | some z => some ⟨True, (.ptr st.m.objs.length 0), ⟨st.m.objs ++ [.cells (z.map ivc)], st.m.rows⟩⟩
    | none => none
  | .box _ x => if isRo ro dst then (match (st.ev x).cells false with
      | some l => some ⟨True, (.ref l), st.m⟩
      | none => none)
    else match (st.ev x).cells true with
      | some l => some ⟨True, (.ptr st.m.objs.length 0), ⟨st.m.objs ++ [.cells l], st.m.rows⟩⟩
      | none => none
  | .build t parts => match bld t with
    | some (z, pl) => match fillI pl (z.map ivc) (parts.toList.map fun p => (p.1, st.ev p.2)) with
      | some l => some ⟨True, (.agg l), st.m⟩
      | none => none
    | none => none
  | .buildSlice t len parts => match sel t with
    | some e => match ty e with
      | some (_, sz, _) => match fillI (fun i => some (i * sz, sz)) (List.replicate (len * sz) .any) (parts.toList.map fun p => (p.1, st.ev p.2)) with
        | some l => some ⟨len * sz ≤ 16777216 ∧ l.length = len * sz, (.sl .full len l), st.m⟩
        | none => none
      | none => none
    | none => none
  | .load t x => match ty t with
    | some (ag, sz, _) => match ldc st (st.ev x) with
      | some l => match ldv ag sz l with
        | some y => some ⟨True, y, st.m⟩
        | none => none
      | none => none
    | none => none
  | .store t x y => match ty t with
    | some (_, sz, _) => match st.ev x, (st.ev y).cells true with
      | .ptr o off, some c => match st.m.objs[o]? with
        | some (.cells l) => some ⟨c.length = sz ∧ off + sz ≤ l.length, .any, ⟨st.m.objs.set o (.cells (splice l off c)), st.m.rows⟩⟩
        | _ => none
      | _, _ => none
    | none => none
  | .nilCheck x => match (st.ev x).off 0 with
    | some _ => some ⟨True, (st.ev x), st.m⟩
    | none => none
  | .binOp op t x y _ => match st.ev x, st.ev y with
    | .v (.int k a), .v (.int k' b) => wh (k = k') (match ibin op k a b with | some v => some ⟨True, (.v v), st.m⟩ | none => none)
    | .v (.string a), .v (.string b) => (match sbin op a b with | some v => some ⟨True, (.v v), st.m⟩ | none => none)
    | p, q => match op with
      | .eql => (match eqv t (isLit x || isLit y) p q with | some b => some ⟨True, (.v (.bool b)), st.m⟩ | none => none)
      | .neq => (match eqv t (isLit x || isLit y) p q with | some b => some ⟨True, (.v (.bool (!b))), st.m⟩ | none => none)
      | _ => none
  | .unOp u _ x => match u, st.ev x with
    | .not, .v (.bool b) => some ⟨True, (.v (.bool (!b))), st.m⟩
    | .neg, .v (.int k a) => some ⟨True, (.v (.int k (k.wrap (0 - a)))), st.m⟩
    | _, _ => none
  | .convert s d x => match st.ev x with
    | .v (.int _ a) => (match ikind s, ikind d with | some _, some k => some ⟨True, (.v (.int k (k.wrap a))), st.m⟩ | _, _ => none)
    | .sl _ 1 [.v (.int .u8 b)] => some ⟨s = 121 ∧ d = 9, (.v (.string (ByteArray.empty.push (UInt8.ofNat b.toNat)))), st.m⟩
    | _ => none
  | .makeInterface t x => some ⟨ifT t = true, (.iface t (st.ev x)), st.m⟩
  | .makeFunc fn first captured => some ⟨first = #[] ∧ captured = #[], (.v (.func fn #[] #[])), st.m⟩
  | .makeMap t r => some ⟨t = 108 ∧ r = none, (.map st.m.objs.length), ⟨st.m.objs ++ [.map #[] 0], st.m.rows⟩⟩
  | .slice t x lo hi mx => match lo, hi, mx with
    | some lo, some hi, none => (match st.ev x, st.ev lo, st.ev hi with
      | .v (.string s), .v (.int .i64 l), .v (.int .i64 h) => some ⟨t = 9 ∧ 0 ≤ l ∧ l ≤ h ∧ h ≤ s.size, (.v (.string (s.extract l.toNat h.toNat))), st.m⟩
      | _, _, _ => none)
    | _, _, _ => none
  | .fieldAddr t x f => match fld t f with
    | some off => match (st.ev x).off off with
      | some y => some ⟨True, y, st.m⟩
      | none => none
    | none => none
  | .indexAddr t x i => match st.ev i with
    | .v (.int .i64 j) => match st.ev x with
      | .sl _ m l => (match sel t with
        | some e => match ty e with
          | some (_, sz, _) => some ⟨0 ≤ j ∧ j < m ∧ j.toNat * sz < l.length, (.ref (l.drop (j.toNat * sz))), st.m⟩
          | none => none
        | none => none)
      | .vec o m _ => (match sel t with
        | some e => match ty e with
          | some (_, sz, _) => some ⟨0 ≤ j ∧ j < m, .ptr o (j.toNat * sz), st.m⟩
          | none => none
        | none => none)
      | p => match arr t with
        | some (len, e) => match ty e with
          | some (_, sz, _) => wh (0 ≤ j ∧ j < len) (match p.off (j.toNat * sz) with | some y => some ⟨True, y, st.m⟩ | none => none)
          | none => none
        | none => none
    | _ => none
  | .index t x i => match st.ev x, st.ev i with
    | .v (.string s), .v (.int .i64 j) => wh (t = 9 ∧ 0 ≤ j) (match s[j.toNat]? with | some b => some ⟨True, (.v (.int .u8 b.toNat)), st.m⟩ | none => none)
    | _, _ => none
  | .lookup t x i ok => match st.ev x, st.ev i with
    | .map o, .v (.string s) => wh (t = 108) (match st.m.map_ o with
      | some (es, _) => (match mlook es s with
        | some r => some ⟨True, (if ok then .tup [.v (mval r), .v (.bool r.isSome)] else .v (mval r)), st.m⟩
        | none => none)
      | none => none)
    | _, _ => none
  | .mapUpdate t x i y => match st.ev x, st.ev i, st.ev y with
    | .map o, .v (.string s), .v v => wh (t = 108) (match st.m.map_ o with
      | some (es, c) => (match mlook es s with
        | some r => some ⟨True, .any, ⟨st.m.objs.set o (.map (mupd es c s v r).1 (mupd es c s v r).2), st.m.rows⟩⟩
        | none => none)
      | none => none)
    | _, _, _ => none
  | .mapEntry t x i => match st.ev x, st.ev i with
    | .map o, .v (.string s) => wh (t = 108) (match st.m.map_ o with
      | some (es, c) => (match mlook es s with
        | some r => some ⟨True, (.tup [.v (mval r), .v (.int .i64 (bornAt es c r))]), ⟨st.m.objs.set o (.map (ment es c s r).1 (ment es c s r).2), st.m.rows⟩⟩
        | none => none)
      | none => none)
    | _, _ => none
  | .entryStore t x i y => match st.ev x, st.ev i, st.ev y with
    | .map o, .v (.int _ q), .v v => wh (t = 108) (match st.m.map_ o with
      | some (es, c) => (match es.findIdx? (fun e => decide ((e.born : Int) = q)) with
        | some j => some ⟨True, .any, ⟨st.m.objs.set o (.map (es.modify j fun e => { e with val := v }) c), st.m.rows⟩⟩
        | none => none)
      | none => none)
    | _, _, _ => none
  | .typeAssert x _ t ok => match st.ev x with
    | .iface t' y => wh (ifT t = true) (match ok with
      | true => if t' = t then some ⟨True, (.tup [y, .v (.bool true)]), st.m⟩ else (match zeroOf t with | some z => some ⟨True, (.tup [.v z, .v (.bool false)]), st.m⟩ | none => none)
      | false => some ⟨t' = t, y, st.m⟩)
    | _ => none
  | .extract x i => match st.ev x with
    | .tup l => (match l[i]? with | some y => some ⟨True, y, st.m⟩ | none => none)
    | _ => none
  | .call c => match c.callee with
    | .builtin b => stepB st b c.args.toList c.argTypes.toList
    | _ => none
  | _ => none
theorem val_makeFunc {n : Nat} {wr : Nat → Prop} {st : St} {fn : Fn} : Val n wr st (.makeFunc fn #[] #[]) (.v (.func fn #[] #[])) st.m :=
  Val.pure fun κ a w hr => ⟨.func fn #[] #[], by simp only [Rel], fun o ho => by simp [execOp, ho, Instr.makeFunc]⟩
theorem call_eq {c : Call} {b : Builtin} {xs : List Operand} {ts : List TypeId} (hc : c.callee = .builtin b) (h1 : c.args.toList = xs) (h2 : c.argTypes.toList = ts) : c = ⟨.builtin b, xs.toArray, ts.toArray⟩ := by
  cases c with
  | mk a b c => simp only at hc h1 h2; subst hc; subst h1; subst h2; simp
set_option maxHeartbeats 4000000 in
theorem stepB_val {n : Nat} {wr : Nat → Prop} {st : St} {r : Res} {c : Call} {b : Builtin} (hc : c.callee = .builtin b) (h : stepB st b c.args.toList c.argTypes.toList = some r) (hp : r.p) : Val n wr st (.call c) r.x r.m := by
  generalize h1 : c.args.toList = xs at h
  generalize h2 : c.argTypes.toList = ts at h
  obtain rfl := call_eq hc h1 h2
  clear hc h1 h2
  unfold stepB at h
  split at h
  · split at h
    · split at h
      · cases h; exact val_lenSl (ty_ := 0) ‹_› ‹_›
      · cases h
    · split at h
      · cases h; exact val_lenVec (ty_ := 0) ‹_› ‹_›
      · cases h
    · cases h; exact val_lenStr hp ‹_›
    · replace h := wh_some h
      obtain ⟨q, h, e_⟩ := h
      subst e_
      obtain ⟨rfl, _⟩ := hp
      split at h
      · cases h; exact val_lenMap ‹_› ‹_›
      · cases h
    · cases h
  · split at h
    · cases h; exact val_max ‹_› ‹_›
    · cases h
  · split at h
    · cases h; exact val_min ‹_› ‹_›
    · cases h
  · split at h
    · replace h := wh_some h
      obtain ⟨q, h, e_⟩ := h
      subst e_
      obtain ⟨rfl, _⟩ := hp
      split at h
      · split at h
        · cases h; exact val_delete ‹_› ‹_› ‹_› ‹_›
        · cases h
      · cases h
    · cases h
  · replace h := wh_some h
    obtain ⟨q, h, e_⟩ := h
    subst e_
    obtain ⟨rfl, hp⟩ := hp
    split at h
    · split at h
      · split at h
        · replace h := wh_some h
          obtain ⟨q, h, e_⟩ := h
          subst e_
          obtain ⟨⟨h1, h2, h3, h4, h5, h6⟩, _⟩ := hp
          split at h
          · cases h; exact val_append ‹_› ‹_› h1 h2 ‹_› (XV.sl ‹_›) h3 h4 h5 h6 ‹_›
          · cases h
        · cases h
      · cases h
    · split at h
      · split at h
        · split at h
          · replace h := wh_some h
            obtain ⟨q, h, e_⟩ := h
            subst e_
            obtain ⟨⟨h1, h2, h3, h4, h7, h5, h6⟩, _⟩ := hp
            split at h
            · cases h; exact val_append ‹_› ‹_› h1 h2 ‹_› (XV.vec ‹_› h7 ‹_›) h3 (by rw [List.length_take]; omega) h5 h6 ‹_›
            · cases h
          · cases h
        · cases h
      · cases h
    · cases h
  · cases h
set_option maxHeartbeats 4000000 in
theorem stepR_val {n : Nat} {wr : Nat → Prop} {ro : List Nat} {dst : Option Tmp} {st : St} {r : Res} {op : Op} (h : stepR ro dst st op = some r) (hp : r.p) : Val n wr st op r.x r.m := by
  unfold stepR at h
  split at h
  · cases h; exact val_move _
  · cases h; exact val_assign _
  · split at h
    · cases h; exact val_pick ‹_›
    · cases h
  · split at h
    · cases h; exact val_alloc ‹_›
    · cases h
  · split at h
    · split at h
      · cases h; exact val_boxRef ‹_›
      · cases h
    · split at h
      · cases h; exact val_boxObj ‹_›
      · cases h
  · split at h
    · split at h
      · cases h; exact val_build ‹_› ‹_›
      · cases h
    · cases h
  · split at h
    · split at h
      · split at h
        · cases h; exact val_buildSlice ‹_› ‹_› hp.1 ‹_› hp.2
        · cases h
      · cases h
    · cases h
  · split at h
    · split at h
      · split at h
        · cases h; exact val_load ‹_› ‹_› ‹_›
        · cases h
      · cases h
    · cases h
  · split at h
    · split at h
      · split at h
        · cases h; exact val_store ‹_› ‹_› ‹_› ‹_› hp.1 hp.2
        · cases h
      · cases h
    · cases h
  · split at h
    · cases h; exact val_nilCheck ‹_›
    · cases h
  · split at h
    · replace h := wh_some h
      obtain ⟨q, h, e_⟩ := h
      subst e_
      obtain ⟨rfl, _⟩ := hp
      split at h
      · cases h; exact val_bin ‹_› ‹_› ‹_›
      · cases h
    · split at h
      · cases h; exact val_bins ‹_› ‹_› ‹_›
      · cases h
    · split at h
      · split at h
        · rename_i e; cases h; exact val_eq (neg := false) e
        · cases h
      · split at h
        · rename_i e; cases h; exact val_eq (neg := true) e
        · cases h
      · cases h
  · split at h
    · cases h; exact val_not ‹_›
    · cases h; exact val_neg ‹_›
    · cases h
  · split at h
    · split at h
      · cases h; exact val_conv ‹_› ‹_› ‹_›
      · cases h
    · cases h; obtain ⟨rfl, rfl⟩ := hp; exact val_byteString ‹_›
    · cases h
  · cases h; exact val_iface hp
  · cases h; obtain ⟨rfl, rfl⟩ := hp; exact val_makeFunc
  · cases h; obtain ⟨rfl, rfl⟩ := hp; exact val_makeMap
  · split at h
    · split at h
      · cases h; exact val_sliceStr hp.1 ‹_› ‹_› ‹_› hp.2.1 hp.2.2.1 hp.2.2.2
      · cases h
    · cases h
  · split at h
    · split at h
      · cases h; exact val_field ‹_› ‹_›
      · cases h
    · cases h
  · split at h
    · split at h
      · split at h
        · split at h
          · cases h; exact val_indexSl ‹_› ‹_› ‹_› ‹_› hp.1 hp.2.1 hp.2.2
          · cases h
        · cases h
      · split at h
        · split at h
          · cases h; exact val_indexVec ‹_› ‹_› ‹_› ‹_› hp.1 hp.2
          · cases h
        · cases h
      · split at h
        · split at h
          · replace h := wh_some h
            obtain ⟨q, h, e_⟩ := h
            subst e_
            obtain ⟨⟨h0, h1⟩, _⟩ := hp
            split at h
            · cases h; exact val_indexArr ‹_› ‹_› ‹_› h0 h1 ‹_›
            · cases h
          · cases h
        · cases h
    · cases h
  · split at h
    · replace h := wh_some h
      obtain ⟨q, h, e_⟩ := h
      subst e_
      obtain ⟨⟨h0, h1⟩, _⟩ := hp
      split at h
      · cases h; exact val_indexStr h0 ‹_› ‹_› h1 ‹_›
      · cases h
    · cases h
  · split at h
    · replace h := wh_some h
      obtain ⟨q, h, e_⟩ := h
      subst e_
      obtain ⟨rfl, _⟩ := hp
      split at h
      · split at h
        · cases h; exact val_lookup ‹_› ‹_› ‹_› ‹_›
        · cases h
      · cases h
    · cases h
  · split at h
    · replace h := wh_some h
      obtain ⟨q, h, e_⟩ := h
      subst e_
      obtain ⟨rfl, _⟩ := hp
      split at h
      · split at h
        · cases h; exact val_mapUpdate ‹_› ‹_› ‹_› ‹_› ‹_›
        · cases h
      · cases h
    · cases h
  · split at h
    · replace h := wh_some h
      obtain ⟨q, h, e_⟩ := h
      subst e_
      obtain ⟨rfl, _⟩ := hp
      split at h
      · split at h
        · cases h; exact val_mapEntry ‹_› ‹_› ‹_› ‹_›
        · cases h
      · cases h
    · cases h
  · split at h
    · replace h := wh_some h
      obtain ⟨q, h, e_⟩ := h
      subst e_
      obtain ⟨rfl, _⟩ := hp
      split at h
      · split at h
        · cases h; exact val_entryStore ‹_› ‹_› ‹_› ‹_› ‹_›
        · cases h
      · cases h
    · cases h
  · split at h
    · replace h := wh_some h
      obtain ⟨q, h, e_⟩ := h
      subst e_
      obtain ⟨h0, hp⟩ := hp
      split at h
      · split at h
        · rename_i e; subst e; cases h; exact val_assertOk h0 ‹_›
        · split at h
          · cases h; exact val_assertNo h0 ‹_› ‹_› ‹_›
          · cases h
      · cases h; obtain rfl := hp; exact val_assertPlain h0 ‹_›
    · cases h
  · split at h
    · split at h
      · cases h; exact val_extract ‹_› ‹_›
      · cases h
    · cases h
  · rename_i c
    split at h
    · exact stepB_val ‹_› h hp
    · cases h
  · cases h
end Go.Proofs.Ytphjldhdnmoolaa.A
/- Words: regions, code without loops, calls and their ends. -/
namespace Go.Proofs.Ytphjldhdnmoolaa.A
open Go
/-! ### calls -/
def fTab : List Nat := (List.range 80).map (· + 3) ++ (List.range 18).map (· + 84)
noncomputable def fRow (f : Nat) : Bool := match P.funcs[f]? with
  | some fn => !(fn.name == "runtime.NumGoroutine") && fn.body.isSome
  | none => false
theorem fTab_ok : fTab.all fRow = true := by kernel_rfl
def fOK (f : Nat) : Bool := decide (3 ≤ f ∧ f ≤ 101 ∧ f ≠ 83)
theorem fOK_mem {f : Nat} (h : fOK f = true) : f ∈ fTab := by
  simp only [fOK, decide_eq_true_eq] at h
  simp only [fTab, List.mem_append, List.mem_map, List.mem_range]
  by_cases h1 : f < 83
  · exact .inl ⟨f - 3, by omega, by omega⟩
  · exact .inr ⟨f - 84, by omega, by omega⟩
theorem callFunc_run {f : Nat} (h : fOK f = true) (args : Array Value) (w : World) : (callFunc f args).run P w = .ok (.enter f args) w := by
  have h1 := List.all_eq_true.1 fTab_ok f (fOK_mem h)
  unfold fRow at h1
  generalize hy : P.funcs[f]? = y at h1
  cases y with
  | none => cases h1
  | some fn =>
    simp only [Bool.and_eq_true, Bool.not_eq_true'] at h1
    obtain ⟨g1, g2⟩ := h1
    have g3 : fn.body.isNone = false := by cases hb : fn.body <;> simp_all
    simp only [callFunc, Sem.run_bind, run_program, Result.andThen_ok, hy, g1, Bool.false_eq_true, if_false, g3, Sem.run_pure]
theorem evL {n : Nat} {wr : Nat → Prop} {κ : K} {st : St} {a : Act} {w : World} (h : StRel n wr κ st a w) (g : IV → IV) (hg : ∀ {x y}, Rel κ w x y → Rel κ w (g x) y) : ∀ xs : List Operand, RelL κ w (xs.map fun x => g (st.ev x)) (xs.map a.eval)
  | [] => by simp only [List.map_nil, RelL]
  | x :: xs => by simp only [List.map_cons, RelL]; exact ⟨_, _, rfl, hg (h.ev x), evL h g hg xs⟩
/-- The arguments of a call: slices lose the right to grow, but for the one function whose slice is full. -/
def argW (f : Nat) (x : IV) : IV := if f = 59 then x else x.sh
theorem argW_rel {f : Nat} {κ : K} {w : World} {x : IV} {y : Value} (h : Rel κ w x y) : Rel κ w (argW f x) y := by
  unfold argW; split
  · exact h
  · exact sh_rel h
/-! ### results -/
def res1 (st : St) : ResultVar → Option IV
  | .tmp t => some (st.t t).sh
  | .cell a t => match ty t, ldc st (st.t a) with
    | some (ag, sz, _), some l => (ldv ag sz l).map IV.sh
    | _, _ => none
def resL (st : St) : List ResultVar → Option (List IV)
  | [] => some []
  | r :: rs => match res1 st r, resL st rs with
    | some x, some xs => some (x :: xs)
    | _, _ => none
def res (st : St) (rs : List ResultVar) : Option IV := match resL st rs with
  | some [x] => some x
  | some xs => some (.tup xs)
  | none => none
def rdRes (tmps : Array Value) : ResultVar → Sem Value
  | .tmp t => pure (tmps.getD t undef)
  | .cell p t => do loadVar t (← asAddr (tmps.getD p undef))
theorem res1_run {n : Nat} {wr : Nat → Prop} {κ : K} {st : St} {a : Act} {w : World} (hr : StRel n wr κ st a w) {r : ResultVar} {x : IV} (h : res1 st r = some x) :
    ∃ v, (rdRes a.tmps r).run P w = .ok v w ∧ Rel κ w x v := by
  cases r with
  | tmp t =>
    simp only [res1, Option.some.injEq] at h
    subst h
    exact ⟨_, rfl, sh_rel (hr.t t)⟩
  | cell p t =>
    simp only [res1] at h
    split at h
    · rename_i ag sz by_ l e1 e2
      obtain ⟨y, hy, rfl⟩ := Option.map_eq_some_iff.1 h
      obtain ⟨b, off, vs, e, h1, h2⟩ := ldc_cells hr (hr.t p) e2
      obtain ⟨v, h3, h4⟩ := ldv_run e1 hy h1 h2
      refine ⟨v, ?_, sh_rel h4⟩
      simp only [rdRes, e, asAddr, Sem.run_bind, Sem.run_pure, Result.andThen_ok, h3]
    · cases h
theorem resL_run {n : Nat} {wr : Nat → Prop} {κ : K} {st : St} {a : Act} {w : World} (hr : StRel n wr κ st a w) : ∀ {rs : List ResultVar} {xs : List IV}, resL st rs = some xs →
    ∃ vs : List Value, (rs.mapM (rdRes a.tmps)).run P w = .ok vs w ∧ RelL κ w xs vs
  | [], xs, h => by
    simp only [resL, Option.some.injEq] at h
    subst h
    exact ⟨[], rfl, by simp only [RelL]⟩
  | r :: rs, xs, h => by
    simp only [resL] at h
    split at h
    · rename_i x ys e1 e2
      cases h
      obtain ⟨v, h1, h2⟩ := res1_run hr e1
      obtain ⟨vs, h3, h4⟩ := resL_run hr e2
      refine ⟨v :: vs, ?_, by simp only [RelL]; exact ⟨v, vs, rfl, h2, h4⟩⟩
      simp only [List.mapM_cons, Sem.run_bind]
      rw [h1]
      simp only [Result.andThen_ok]
      rw [h3]
      rfl
    · cases h
theorem res_run {n : Nat} {wr : Nat → Prop} {κ : K} {st : St} {a : Act} {w : World} (hr : StRel n wr κ st a w) {fn : Func} {x : IV} (h : res st fn.results.toList = some x) : ∃ v, (results fn a.tmps).run P w = .ok v w ∧ Rel κ w x v := by
  unfold res at h
  have key : ∀ xs, resL st fn.results.toList = some xs → ∃ vs : List Value, RelL κ w xs vs ∧ (results fn a.tmps).run P w = .ok (if h : vs.toArray.size = 1 then vs.toArray[0] else .tuple vs.toArray) w := by
    intro xs hx
    obtain ⟨vs, h1, h2⟩ := resL_run hr hx
    refine ⟨vs, h2, ?_⟩
    unfold results
    show (do let vs ← fn.results.mapM (rdRes a.tmps); pure (if h : vs.size = 1 then vs[0] else .tuple vs) : Sem Value).run P w = _
    rw [Array.mapM_eq_mapM_toList]
    simp only [Sem.run_bind, Sem.run_map]
    rw [h1]
    rfl
  split at h
  · rename_i x' e
    cases h
    obtain ⟨vs, h1, h2⟩ := key _ e
    simp only [RelL] at h1
    obtain ⟨v, vs', rfl, h3, rfl⟩ := h1
    exact ⟨v, by rw [h2]; simp, h3⟩
  · rename_i xs hne e
    cases h
    obtain ⟨vs, h1, h2⟩ := key _ e
    have hl := RelL.length h1
    refine ⟨.tuple vs.toArray, ?_, by simp only [Rel]; exact ⟨_, rfl, h1⟩⟩
    rw [h2, dif_neg]
    intro h0
    match xs, hne, e, hl with
    | [], _, _, hl => simp only [List.size_toArray] at h0; simp at hl; simp [hl] at h0
    | [y], hne, e, hl => exact hne y rfl
    | _ :: _ :: _, _, _, hl => simp only [List.size_toArray, List.length_cons] at h0 hl; omega
  · cases h
/-! ### the whole call -/
def argsT (args : List IV) : Nat → IV := fun i => args.getD i .any
theorem Sim.of {f : FuncId} {args : List IV} {m : Mem} {R : IV → Mem → Prop} {fn : Func} {cd : Code} (hf : P.funcs[f]? = some fn) (hb : fn.body = some cd) (hn : args.length ≤ fn.ntmps)
    (h : ∀ wr, T fn.ntmps wr cd ⟨argsT args, m⟩ (fun e s => (e = .normal ∨ e = .ret) ∧ ∃ r no nr m', res s fn.results.toList = some r ∧ r.np no nr = true ∧ DropW m no nr s.m m' ∧ R r m')) : Sim f args m R := by
  intro κ w vs hi hl
  have hlen : vs.size = args.length := by rw [← Array.length_toList]; exact RelL.length hl
  have hst : StRel fn.ntmps (wr0 κ w) κ ⟨argsT args, m⟩ { tmps := vs ++ Array.replicate (fn.ntmps - vs.size) undef, defers := [] } w := by
    refine ⟨hi, rfl, by simp; omega, fun i => ?_⟩
    show Rel κ w (args.getD i .any) _
    by_cases hlt : i < args.length
    · rw [List.getD_eq_getElem?_getD, List.getElem?_eq_getElem hlt]
      obtain ⟨v, hv, hr⟩ := hl.get (List.getElem?_eq_getElem hlt)
      have hv' : vs[i]? = some v := by simpa using hv
      rw [Array.getD_eq_getD_getElem?, Array.getElem?_append_left (by omega), hv']
      exact hr
    · rw [List.getD_eq_getElem?_getD, List.getElem?_eq_none (by omega)]
      show Rel κ w .any _
      simp only [Rel]
  refine calls_of_wp hf hb (wp_mono (h (wr0 κ w) κ _ w hst) ?_)
  rintro e a' w' ⟨κ', s, h1, h2, he, r, no, nr, m', h3, h4, h5, h8⟩
  have h6 := h5.lo
  have h7 := h5.lr
  obtain ⟨v, hv, hr⟩ := res_run h2 h3
  have hrl : κ.rows.length ≤ nr := by have := hi.rows; rw [this, List.length_map] at h7; exact h7
  have post : a'.defers = [] ∧ ∃ v, (results fn a'.tmps).run P w' = .ok v w' ∧ ∃ κ' v' r m', Ending.returned v = .returned v' ∧ Ev (wr0 κ w) κ w κ' w' ∧ Inv (wr0 κ w) κ' w' m' ∧ Rel κ' w' r v' ∧ R r m' :=
    ⟨h2.defers, v, hv, κ'.cut no nr, v, r, m', rfl, h1.cut (by rw [hi.len]; exact h6) hrl, h2.inv.cut (h5.strong hi), Rel.cut _ _ h4 hr, h8⟩
  rcases he with rfl | rfl
  · exact post
  · exact post
end Go.Proofs.Ytphjldhdnmoolaa.A
/- Words: code without its places and edges. -/
namespace Go.Proofs.Ytphjldhdnmoolaa.A
open Go
structure SO where
  d : Option Tmp
  op : Op
  g : Option (Option Tmp × Bool)
inductive SC where
  | sk
  | rg (ops : List SO)
  | dr (raw : Array Oper) (ops : List SO)
  | sq (a b : SC)
  | cd (c : Operand) (x y : SC)
  | bl (id : Nat) (b : SC)
  | lp (b : SC)
  | ex (id : Nat)
  | lb
  | gt (l : Nat)
  | rt
  | no
def stG (ops : Array Oper) : Option (Nat × Bool) → Option (Option Tmp × Bool)
  | none => none
  | some (j, want) => some ((ops[j]?).bind (·.dst), want)
def stO (ops : Array Oper) : List Oper → List SO
  | [] => []
  | o :: os => ⟨o.dst, o.op, stG ops o.guard⟩ :: stO ops os
def strip : Code → SC
  | .skip => .sk
  | .region _ ops false => .rg (stO ops ops.toList)
  | .region _ ops true => .dr ops (stO ops ops.toList)
  | .seq a b => .sq (strip a) (strip b)
  | .cond c x y => .cd c (strip x) (strip y)
  | .block id b => .bl id (strip b)
  | .loop b => .lp (strip b)
  | .exit id => .ex id
  | .label _ => .lb
  | .goto l => .gt l
  | .ret => .rt
  | _ => .no
/-- One operation, calls too. -/
inductive Nx where
  | val (r : Option Res)
  | call (f : Nat) (args : List IV)
def callN : IV → List IV → Nx
  | .v (.func (.func f) fs cs), xs => if fs.size = 0 ∧ cs.size = 0 ∧ fOK f = true then .call f (xs.map (argW f)) else .val none
  | _, _ => .val none
def nxC (st : St) (c : Call) : Nx := match c.callee with
  | .builtin b => .val (stepB st b c.args.toList c.argTypes.toList)
  | .value x => callN (st.ev x) (c.args.toList.map st.ev)
  | _ => .val none
def nxt (ro : List Nat) (d : Option Tmp) (st : St) : Op → Nx
  | .call c => nxC st c
  | op => .val (stepR ro d st op)
/-- The same, and operations that may come out in several ways. -/
inductive Ny where
  | old (x : Nx)
  | nd (p : Prop) (R : IV → Mem → Prop)
/-- Appending to a vector. -/
def vecN (st : St) (o nS c : Nat) (nX : Nat) (lx : List IV) (t : TypeId) : Ny := match sel t with
  | some e => match ty e with
    | some (_, sz, by_) => .nd (0 < sz ∧ 0 < by_ ∧ 0 < nX ∧ lx.length = nX * sz ∧ lx.all IV.one = true ∧ (nS + nX) * by_ ≤ 140737488355328 ∧ (c = 0 ∨ ∃ L, st.m.objs[o]? = some (.cells L) ∧ L.length = c * sz))
        (fun x m' => ∀ L, (c = 0 ∧ L = [] ∨ 0 < c ∧ st.m.objs[o]? = some (.cells L)) → vecR st o nS c nX sz L (lx.map IV.sh) x m')
    | none => .old (.val none)
  | none => .old (.val none)
def nyB (st : St) (b : Builtin) (args : List Operand) (ts : List TypeId) : Ny := match b, args, ts with
  | .append, [s, x], [t, t'] => match st.ev s, st.ev x with
    | .vec o nS c, .sl _ nX lx => if t = t' then vecN st o nS c nX lx t else .old (.val none)
    | _, _ => .old (.val (stepB st .append [s, x] [t, t']))
  | b, xs, ts => .old (.val (stepB st b xs ts))
/-- Is a slice none? -/
def nilN (ro : List Nat) (d : Option Tmp) (st : St) (t : TypeId) (x : Operand) (t' : TypeId) : Ny := match st.ev x, sel t with
  | .sl _ _ l, some _ => .nd True (nilR st l)
  | _, _ => .old (.val (stepR ro d st (.binOp .eql t x (.const (.slice none 0 0)) t')))
def nyC (st : St) (c : Call) : Ny := match c.callee with
  | .builtin b => nyB st b c.args.toList c.argTypes.toList
  | _ => .old (nxC st c)
def nyt (ro : List Nat) (d : Option Tmp) (st : St) : Op → Ny
  | .call c => nyC st c
  | .binOp op t x y t' => (match op, y with
    | .eql, .const (.slice none 0 0) => nilN ro d st t x t'
    | _, _ => .old (.val (stepR ro d st (.binOp op t x y t'))))
  | op => .old (nxt ro d st op)
/-- Functions that leave the memory as it was, wherever they are called. -/
def quiet (f : Nat) : Bool := f == 73 || f == 47 || f == 34 || f == 35 || f == 100 || f == 37 || f == 49 || f == 51 || f == 36 || f == 95 || f == 38 || f == 69 || f == 70 || f == 61 || f == 84 || f == 85 || f == 86 || f == 96 || f == 78 || f == 55 || f == 79 || f == 54 || f == 68 || f == 41 || f == 42 || f == 27 || f == 24 || f == 45 || f == 29
/-- Functions that answer the same where a new object lies beside. -/
def stab (f : Nat) : Bool := f == 34 || f == 35
/-- A call: its contract, and what is behind it. -/
def cl (f : Nat) (args : List IV) (st : St) (d : Option Tmp) (K : St → Prop) : Prop := ∃ r0 m0, Sim f args st.m (fun r m' => r = r0 ∧ m' = m0) ∧ (quiet f = true → m0 = st.m) ∧ K (St.put ⟨st.t, m0⟩ d r0)
def g2 (x : Nx) (d : Option Tmp) (st : St) (K : St → Prop) : Prop := match x with
  | .val (some r) => r.p ∧ K (St.put ⟨st.t, r.m⟩ d r.x)
  | .call f args => cl f args st d K
  | _ => False
def g3 (x : Ny) (d : Option Tmp) (st : St) (K : St → Prop) : Prop := match x with
  | .old x => g2 x d st K
  | .nd p R => p ∧ ∀ x m', R x m' → K (St.put ⟨st.t, m'⟩ d x)
/-- What stands in the slot of an operation that was left out. -/
abbrev und : IV := .v (.tuple #[])
def gvb (x : IV) (want : Bool) : Option Bool := match x with
  | .v (.bool b) => some (if want then b else !b)
  | .v (.tuple ⟨[]⟩) => some false
  | _ => none
theorem gvb_u {want : Bool} : gvb und want = some false := rfl
def gv (g : Option (Option Tmp × Bool)) (st : St) : Option Bool := match g with
  | none => some true
  | some (some s, want) => gvb (st.t s) want
  | some (none, _) => none
def g1 (g : Option Bool) (op : Op) (ro : List Nat) (d : Option Tmp) (st : St) (K : St → Prop) : Prop := match g with
  | some true => g3 (nyt ro d st op) d st K
  | some false => K (st.put d und)
  | none => False
def Ops (n : Nat) (ro : List Nat) : List SO → St → (St → Prop) → Prop
  | [], st, K => K st
  | o :: os, st, K => dstOK n o.d = true ∧ g1 (gv o.g st) o.op ro o.d st (fun s => Ops n ro os s K)
theorem g1_true {op : Op} {ro : List Nat} {d : Option Tmp} {st : St} {K : St → Prop} : g1 (some true) op ro d st K = g3 (nyt ro d st op) d st K := rfl
theorem g1_false {op : Op} {ro : List Nat} {d : Option Tmp} {st : St} {K : St → Prop} : g1 (some false) op ro d st K = K (st.put d und) := rfl
/-- The same, told without functions of states: os: what is left of a region; Q: what must hold behind it. -/
def h1 (g : Option Bool) (op : Op) (n : Nat) (ro : List Nat) (d : Option Tmp) (st : St) (os : List SO) (Q : Exit → St → Prop) : Prop := g1 g op ro d st (fun s => Ops n ro os s (Q .normal))
def h2 (x : Nx) (n : Nat) (ro : List Nat) (d : Option Tmp) (st : St) (os : List SO) (Q : Exit → St → Prop) : Prop := g2 x d st (fun s => Ops n ro os s (Q .normal))
def h3 (x : Ny) (n : Nat) (ro : List Nat) (d : Option Tmp) (st : St) (os : List SO) (Q : Exit → St → Prop) : Prop := g3 x d st (fun s => Ops n ro os s (Q .normal))
def cal (f : Nat) (args : List IV) (n : Nat) (ro : List Nat) (st : St) (d : Option Tmp) (os : List SO) (Q : Exit → St → Prop) : Prop := cl f args st d (fun s => Ops n ro os s (Q .normal))
def ops (n : Nat) (ro : List Nat) (os : List SO) (st : St) (Q : Exit → St → Prop) : Prop := Ops n ro os st (Q .normal)
section
variable {n : Nat} {ro : List Nat} {d : Option Tmp} {st : St} {os : List SO} {Q : Exit → St → Prop}
theorem ops_nil : ops n ro [] st Q = Q .normal st := rfl
theorem ops_cons {op : Op} {g : Option (Option Tmp × Bool)} : ops n ro (⟨d, op, g⟩ :: os) st Q = (dstOK n d = true ∧ h1 (gv g st) op n ro d st os Q) := rfl
theorem h1_true {op : Op} : h1 (some true) op n ro d st os Q = h3 (nyt ro d st op) n ro d st os Q := rfl
theorem h3_old {x : Nx} : h3 (.old x) n ro d st os Q = h2 x n ro d st os Q := rfl
theorem h3_nd {p : Prop} {R : IV → Mem → Prop} : h3 (.nd p R) n ro d st os Q = (p ∧ ∀ x m', R x m' → ops n ro os (St.put ⟨st.t, m'⟩ d x) Q) := rfl
theorem h1_false {op : Op} : h1 (some false) op n ro d st os Q = ops n ro os (st.put d und) Q := rfl
theorem h2_val {p : Prop} {x : IV} {m : Mem} : h2 (.val (some ⟨p, x, m⟩)) n ro d st os Q = (p ∧ ops n ro os (St.put ⟨st.t, m⟩ d x) Q) := rfl
theorem h2_call {f : Nat} {args : List IV} : h2 (.call f args) n ro d st os Q = cal f args n ro st d os Q := rfl
theorem gv_none : gv none st = some true := rfl
theorem gv_some {s : Tmp} {want : Bool} : gv (some (some s, want)) st = gvb (st.t s) want := rfl
theorem gvb_t {b : Bool} : gvb (.v (.bool b)) true = some b := rfl
theorem gvb_f {b : Bool} : gvb (.v (.bool b)) false = some (!b) := rfl
theorem put_some {t : Nat → IV} {m : Mem} {i : Nat} {x : IV} : St.put ⟨t, m⟩ (some i) x = ⟨upd t i x, m⟩ := rfl
theorem put_some' {i : Nat} {x : IV} : St.put st (some i) x = ⟨upd st.t i x, st.m⟩ := rfl
theorem put_none {x : IV} : st.put none x = st := rfl
theorem dst_some {i : Nat} : (dstOK n (some i) = true) = (i < n) := by simp [dstOK]
theorem dst_none : (dstOK n none = true) = True := by simp [dstOK]
/-- A call whose answer is known. -/
theorem cal_eq {f : Nat} {args : List IV} {r0 : IV} {m0 : Mem} (h : Sim f args st.m (fun r m' => r = r0 ∧ m' = m0)) (hk : ops n ro os (St.put ⟨st.t, m0⟩ d r0) Q) (hq : quiet f = true → m0 = st.m := by first | (intro _; rfl) | (intro h; cases h)) : cal f args n ro st d os Q := ⟨_, _, h, hq, hk⟩
end
theorem g2_wp {n : Nat} {wr : Nat → Prop} {ro : List Nat} {st : St} {o : Oper} {Kp : St → Prop} {κ : K} {a : Act} {w : World} (hr : StRel n wr κ st a w) (hd : dstOK n o.dst = true) (h : g2 (nxt ro o.dst st o.op) o.dst st Kp) {K' : Act → World → Prop} {Q : Exit → Act → World → Prop}
    (hK : ∀ κ' a' w' s, Ev wr κ w κ' w' → StRel n wr κ' s a' w' → Kp s → K' a' w') : o.wp P a w K' Q := by
  have hval : ∀ r : Res, Val n wr st o.op r.x r.m → Kp (St.put ⟨st.t, r.m⟩ o.dst r.x) → o.wp P a w K' Q := by
    intro r hv hk
    obtain ⟨κ', w', v, h1, h2, h3, h4⟩ := hv κ a w hr
    exact h4 o K' Q rfl (hK κ' _ w' _ h1 (h2.put hd h3) hk)
  cases hop : o.op with
  | call c =>
    rw [hop] at h
    simp only [nxt, nxC] at h
    split at h
    · rename_i b hb
      cases hs : stepB st b c.args.toList c.argTypes.toList with
      | none => rw [hs] at h; exact h.elim
      | some r => rw [hs] at h; exact hval r (hop ▸ stepB_val hb hs h.1) h.2
    · rename_i x hx
      unfold callN at h
      split at h
      · rename_i f fs cs hv
        split at h
        · rename_i hcond
          obtain ⟨e1, e2, hf⟩ := hcond
          obtain rfl := Array.eq_empty_of_size_eq_zero e1
          obtain rfl := Array.eq_empty_of_size_eq_zero e2
          obtain ⟨r0, m0, hs, _, hk⟩ := h
          have hev := hr.ev x
          rw [hv] at hev
          simp only [Rel] at hev
          have hrun : (execOp a.eval o).run P w = .ok (.enter f (c.args.map a.eval)) w := by
            simp only [execOp, hop, resolve, hx, hev, Deferred.ofValue, Sem.run_bind, Sem.run_pure, Result.andThen_ok, invoke]
            rw [show (#[] ++ c.args.map a.eval ++ #[] : Array Value) = c.args.map a.eval by simp]
            exact callFunc_run hf _ w
          unfold Oper.wp
          rw [hrun]
          show Calls P f (c.args.map a.eval) w _
          refine (hs κ w (c.args.map a.eval) hr.inv.to0 ?_).mono ?_
          · rw [Array.toList_map, List.map_map]; exact evL hr (argW f) argW_rel c.args.toList
          · rintro e w' ⟨κ', v, r, m', rfl, h2, h3, h4, h5⟩
            have hev' := h2.weaken (wr0_le hr.inv)
            have hst : StRel n wr κ' ⟨st.t, m'⟩ a w' := ⟨h3.weaken (wr0_le hr.inv), hr.defers, hr.size, fun i => Rel.mono h2.le _ _ (hr.t i)⟩
            obtain ⟨rfl, rfl⟩ := h5
            exact hK κ' _ w' _ hev' (hst.put hd h4) hk
        · exact h.elim
      · exact h.elim
    · exact h.elim
  | _ =>
    rw [hop] at h
    have fin : ∀ op, o.op = op → g2 (Nx.val (stepR ro o.dst st op)) o.dst st Kp → o.wp P a w K' Q := by
      intro op ho h
      cases hs : stepR ro o.dst st op with
      | none => rw [hs] at h; exact h.elim
      | some r => rw [hs] at h; exact hval r (ho ▸ stepR_val hs h.1) h.2
    exact fin _ hop h
theorem vec_obj {st : St} {o c sz : Nat} (h : c = 0 ∨ ∃ L, st.m.objs[o]? = some (.cells L) ∧ L.length = c * sz) : ∃ L, (c = 0 ∧ L = [] ∨ 0 < c ∧ st.m.objs[o]? = some (IObj.cells L) ∧ L.length = c * sz) := by
  by_cases hc : c = 0
  · exact ⟨[], .inl ⟨hc, rfl⟩⟩
  · rcases h with h | ⟨L, h1, h2⟩
    · exact absurd h hc
    · exact ⟨L, .inr ⟨by omega, h1, h2⟩⟩
theorem vec_same {st : St} {o c sz : Nat} {L L' : List IV} (h : c = 0 ∧ L = [] ∨ 0 < c ∧ st.m.objs[o]? = some (IObj.cells L) ∧ L.length = c * sz) (h' : c = 0 ∧ L' = [] ∨ 0 < c ∧ st.m.objs[o]? = some (IObj.cells L')) : L' = L := by
  rcases h with ⟨h1, h2⟩ | ⟨h1, h2, _⟩ <;> rcases h' with ⟨g1, g2⟩ | ⟨g1, g2⟩
  · rw [h2, g2]
  · omega
  · omega
  · rw [h2] at g2; cases g2; rfl
theorem g3_wp {n : Nat} {wr : Nat → Prop} {ro : List Nat} {st : St} {o : Oper} {Kp : St → Prop} {κ : K} {a : Act} {w : World} (hr : StRel n wr κ st a w) (hd : dstOK n o.dst = true) (h : g3 (nyt ro o.dst st o.op) o.dst st Kp) {K' : Act → World → Prop} {Q : Exit → Act → World → Prop}
    (hK : ∀ κ' a' w' s, Ev wr κ w κ' w' → StRel n wr κ' s a' w' → Kp s → K' a' w') : o.wp P a w K' Q := by
  have hnd : ∀ (R : IV → Mem → Prop), ValN n wr st o.op R → (∀ x m', R x m' → Kp (St.put ⟨st.t, m'⟩ o.dst x)) → o.wp P a w K' Q := by
    intro R hv hk
    obtain ⟨κ', w', v, x, m', h0, h1, h2, h3, h4⟩ := hv κ a w hr
    exact h4 o K' Q rfl (hK κ' _ w' _ h1 (h2.put hd h3) (hk x m' h0))
  have hold : g2 (nxt ro o.dst st o.op) o.dst st Kp → o.wp P a w K' Q := fun h => g2_wp hr hd h hK
  cases hop : o.op with
  | call c =>
    rw [hop] at h hold
    simp only [nyt, nyC] at h
    split at h
    · rename_i b hb
      have hold' : g2 (.val (stepB st b c.args.toList c.argTypes.toList)) o.dst st Kp → o.wp P a w K' Q := fun h => hold (by simp only [nxt, nxC, hb]; exact h)
      unfold nyB at h
      split at h
      · rename_i s x t t' h1 h2
        split at h
        · rename_i hS hX
          split at h
          · rename_i ht
            subst ht
            unfold vecN at h
            split at h
            · split at h
              · obtain ⟨⟨p1, p2, p3, p4, p5, p6, p7⟩, hk⟩ := h
                obtain rfl := call_eq hb h1 h2
                obtain ⟨L, hL⟩ := vec_obj p7
                refine hnd _ (hop ▸ val_appendVec ‹_› ‹_› p1 p2 hS hX hL p3 p4 p5 p6) (fun x m' hx => hk x m' fun L' hL' => ?_)
                rw [vec_same hL hL']; exact hx
              · exact h.elim
            · exact h.elim
          · exact h.elim
        · rw [h1, h2] at hold'; exact hold' h
      · exact hold' h
    · exact hold h
  | binOp op t x y t' =>
    rw [hop] at h hold
    simp only [nyt] at h
    split at h
    · unfold nilN at h
      split at h
      · exact hnd _ (hop ▸ val_nil ‹_› ‹_›) h.2
      · exact hold h
    · exact hold h
  | _ => rw [hop] at h hold; exact hold h
theorem yield_ok {ops : Array Oper} {j s : Nat} {want b : Bool} {o : Oper} {n : Nat} {wr : Nat → Prop} {κ : K} {st : St} {a : Act} {w : World} (hg : o.guard = some (j, want)) (hs : (ops[j]?).bind (·.dst) = some s) (hb : st.t s = .v (.bool b)) (hr : StRel n wr κ st a w) : Region.wanted o (yielded ops a.tmps) = (b == want) := by
  have ht := hr.t s
  rw [hb] at ht
  simp only [Rel] at ht
  rw [Array.getD_eq_getD_getElem?] at ht
  have : a.tmps[s]? = some (.bool b) := by
    cases hq : a.tmps[s]? with
    | none => rw [hq] at ht; cases ht
    | some v => rw [hq] at ht; exact congrArg some ht
  unfold Region.wanted
  rw [hg]
  simp only [yielded, hs, Option.bind_some, this]
  cases b <;> cases want <;> rfl
theorem want_ok {ops : Array Oper} {j s : Nat} {want c : Bool} {o : Oper} {n : Nat} {wr : Nat → Prop} {κ : K} {st : St} {a : Act} {w : World} (hg : o.guard = some (j, want)) (hs : (ops[j]?).bind (·.dst) = some s) (hr : StRel n wr κ st a w) (h : gvb (st.t s) want = some c) : Region.wanted o (yielded ops a.tmps) = c := by
  unfold gvb at h
  split at h
  · rename_i b hb
    rw [yield_ok hg hs hb hr]
    cases b <;> cases want <;> exact Option.some.inj h
  · rename_i hb
    cases h
    have ht := hr.t s
    rw [hb] at ht
    simp only [Rel] at ht
    rw [Array.getD_eq_getD_getElem?] at ht
    unfold Region.wanted
    rw [hg]
    simp only [yielded, hs, Option.bind_some]
    cases hq : a.tmps[s]? with
    | none => rfl
    | some v => rw [hq] at ht; have e : v = .tuple ⟨[]⟩ := ht; rw [e]; rfl
  · cases h
theorem ops_sound {n : Nat} {wr : Nat → Prop} {ro : List Nat} {ops : Array Oper} {Q : Exit → St → Prop} {κ0 : K} {w0 : World} : ∀ (os : List Oper) (st : St) (κ : K) (a : Act) (w : World), Ev wr κ0 w0 κ w → StRel n wr κ st a w → Ops n ro (stO ops os) st (Q .normal) →
    wpList P ops (fun e a' w' => ∃ κ' st', Ev wr κ0 w0 κ' w' ∧ StRel n wr κ' st' a' w' ∧ Q e st') os a w
  | [], st, κ, a, w, hev, hr, h => wpList_nil ⟨κ, st, hev, hr, h⟩
  | o :: os, st, κ, a, w, hev, hr, h => by
    refine wpList_step fun K' hK' => ?_
    simp only [stO, Ops] at h
    obtain ⟨hd, h⟩ := h
    cases hg : o.guard with
    | none =>
      rw [hg] at h
      simp only [stG, gv, g1] at h
      rw [show Region.wanted o (yielded ops a.tmps) = true by unfold Region.wanted; rw [hg], if_pos rfl]
      exact g3_wp (ro := ro) hr hd h fun κ' a' w' s h1 h2 h3 => hK' _ _ (ops_sound os _ κ' a' w' (hev.trans h1) h2 h3)
    | some p =>
      obtain ⟨j, want⟩ := p
      rw [hg] at h
      simp only [stG] at h
      cases hs : (ops[j]?).bind (·.dst) with
      | none => rw [hs] at h; exact h.elim
      | some s =>
        rw [hs] at h
        simp only [gv] at h
        cases hc : gvb (st.t s) want with
        | none => rw [hc] at h; exact h.elim
        | some c =>
          rw [hc] at h
          rw [want_ok hg hs hr hc]
          cases c with
          | true =>
            rw [if_pos rfl]
            rw [g1_true] at h
            exact g3_wp (ro := ro) hr hd h fun κ' a' w' s h1 h2 h3 => hK' _ _ (ops_sound os _ κ' a' w' (hev.trans h1) h2 h3)
          | false =>
            rw [g1_false] at h
            rw [if_neg (by simp)]
            exact hK' _ _ (ops_sound os _ κ _ w hev (hr.put hd (by simp only [Rel]; rfl)) h)
end Go.Proofs.Ytphjldhdnmoolaa.A
/- Words: regions whose order is open. -/
namespace Go.Proofs.Ytphjldhdnmoolaa.A
open Go
theorem opt_map_congr {f g : Operand → IV} : ∀ {o : Option Operand}, (∀ x ∈ o.toArray, f x = g x) → o.map f = o.map g
  | none, _ => rfl
  | some x, h => by simp [h x (by simp)]
theorem stepB_congr {st st' : St} {b : Builtin} {xs : List Operand} {ts : List TypeId} (hm : st'.m = st.m) (h : ∀ x ∈ xs, st'.ev x = st.ev x) : stepB st' b xs ts = stepB st b xs ts := by
  unfold stepB
  split <;> first | rfl | skip
  · rename_i x t; rw [h x (by simp), hm]
  · rename_i x y; rw [h x (by simp), h y (by simp), hm]
  · rename_i x y; rw [h x (by simp), h y (by simp), hm]
  · rename_i x y _ _; rw [h x (by simp), h y (by simp), hm]
  · rename_i x y _ _; rw [h x (by simp), h y (by simp), hm]
theorem ldc_congr {st st' : St} (hm : st'.m = st.m) (x : IV) : ldc st' x = ldc st x := by
  cases x <;> simp only [ldc, hm]
theorem stepR_congr {ro : List Nat} {d : Option Tmp} {st st' : St} {op : Op} (hc : ∀ c, op ≠ .call c) (hm : st'.m = st.m) (h : ∀ x ∈ op.operands, st'.ev x = st.ev x) : stepR ro d st' op = stepR ro d st op := by
  have maps : ∀ ps : Array (Nat × Operand), (∀ x ∈ (ps.toList.map (·.2)).toArray, st'.ev x = st.ev x) → (ps.toList.map fun p => (p.1, st'.ev p.2)) = ps.toList.map fun p => (p.1, st.ev p.2) := fun ps hp =>
    List.map_congr_left fun p hm' => by rw [hp p.2 (by simp; exact ⟨p.1, by simpa using hm'⟩)]
  cases op with
  | call c => exact absurd rfl (hc c)
  | move x => have h1 := h x (by simp [Op.operands]); simp only [stepR, h1, hm]
  | assign x => have h1 := h x (by simp [Op.operands]); simp only [stepR, h1, hm]
  | pick c x y => have h1 := h c (by simp [Op.operands]); have h2 := h x (by simp [Op.operands]); have h3 := h y (by simp [Op.operands]); simp only [stepR, h1, h2, h3, hm]
  | alloc t => simp only [stepR, hm]
  | box t x => have h1 := h x (by simp [Op.operands]); simp only [stepR, h1, hm]
  | build t ps => simp only [stepR, maps ps h, hm]
  | buildSlice t len ps => simp only [stepR, maps ps h, hm]
  | load t x => have h1 := h x (by simp [Op.operands]); simp only [stepR, h1, ldc_congr hm, hm]
  | store t x y => have h1 := h x (by simp [Op.operands]); have h2 := h y (by simp [Op.operands]); simp only [stepR, h1, h2, hm]
  | nilCheck x => have h1 := h x (by simp [Op.operands]); simp only [stepR, h1, hm]
  | binOp op t x y t' => have h1 := h x (by simp [Op.operands]); have h2 := h y (by simp [Op.operands]); simp only [stepR, h1, h2, hm]
  | unOp u t x => have h1 := h x (by simp [Op.operands]); simp only [stepR, h1, hm]
  | convert s t x => have h1 := h x (by simp [Op.operands]); simp only [stepR, h1, hm]
  | makeInterface t x => have h1 := h x (by simp [Op.operands]); simp only [stepR, h1, hm]
  | makeFunc f a b => simp only [stepR, hm]
  | makeMap t r => simp only [stepR, hm]
  | slice t x lo hi mx =>
    have h1 := h x (by simp [Op.operands])
    cases lo with
    | none => simp only [stepR]
    | some lo =>
      cases hi with
      | none => simp only [stepR]
      | some hi =>
        cases mx with
        | some _ => simp only [stepR]
        | none =>
          have h2 := h lo (by simp [Op.operands]); have h3 := h hi (by simp [Op.operands])
          simp only [stepR, h1, h2, h3, hm]
  | fieldAddr t x f => have h1 := h x (by simp [Op.operands]); simp only [stepR, h1, hm]
  | indexAddr t x i => have h1 := h x (by simp [Op.operands]); have h2 := h i (by simp [Op.operands]); simp only [stepR, h1, h2, hm]
  | index t x i => have h1 := h x (by simp [Op.operands]); have h2 := h i (by simp [Op.operands]); simp only [stepR, h1, h2, hm]
  | lookup t x i ok => have h1 := h x (by simp [Op.operands]); have h2 := h i (by simp [Op.operands]); simp only [stepR, h1, h2, hm]
  | mapUpdate t x i y => have h1 := h x (by simp [Op.operands]); have h2 := h i (by simp [Op.operands]); have h3 := h y (by simp [Op.operands]); simp only [stepR, h1, h2, h3, hm]
  | mapEntry t x i => have h1 := h x (by simp [Op.operands]); have h2 := h i (by simp [Op.operands]); simp only [stepR, h1, h2, hm]
  | entryStore t x i y => have h1 := h x (by simp [Op.operands]); have h2 := h i (by simp [Op.operands]); have h3 := h y (by simp [Op.operands]); simp only [stepR, h1, h2, h3, hm]
  | typeAssert x s t ok => have h1 := h x (by simp [Op.operands]); simp only [stepR, h1, hm]
  | extract x i => have h1 := h x (by simp [Op.operands]); simp only [stepR, h1, hm]
  | _ => simp only [stepR]
theorem nxt_congr {ro : List Nat} {d : Option Tmp} {st st' : St} {op : Op} (hm : st'.m = st.m) (h : ∀ x ∈ op.operands, st'.ev x = st.ev x) : nxt ro d st' op = nxt ro d st op := by
  cases op with
  | call c =>
    have hargs : ∀ x ∈ c.args.toList, st'.ev x = st.ev x := fun x hx => h x (by simp [Op.operands, Call.operands]; exact .inr (by simpa using hx))
    have hmap : c.args.toList.map st'.ev = c.args.toList.map st.ev := List.map_congr_left hargs
    simp only [nxt, nxC]
    cases hc : c.callee with
    | value x => have h1 := h x (by simp [Op.operands, Call.operands, hc]); simp only [h1, hmap]
    | invoke r m => rfl
    | builtin b => simp only [stepB_congr hm hargs]
  | _ => exact congrArg Nx.val (stepR_congr (by intro c; simp) hm h)
/-! operations that neither look at the memory nor change it -/
def pureB (b : Builtin) (ts : List TypeId) : Bool := match b, ts with
  | .len, [t] => t != 108
  | .max, _ | .min, _ => true
  | _, _ => false
/-- refs: the slots that loads from memory that never changes write. -/
def pureO (ro refs : List Nat) (d : Option Tmp) : Op → Bool
  | .move _ | .assign _ | .pick .. | .build .. | .buildSlice .. | .nilCheck _ | .binOp .. | .unOp .. | .convert .. | .makeInterface .. | .slice .. | .fieldAddr .. | .indexAddr .. | .index .. | .typeAssert .. | .extract .. => true
  | .box .. => isRo ro d
  | .load .. => isRo refs d
  | .call c => match c.callee with
    | .builtin b => pureB b c.argTypes.toList
    | _ => false
  | _ => false
def isRef : IV → Bool
  | .ref _ => true
  | _ => false
/-- What a load of such a slot must show. -/
structure Rf where
  refs : List Nat
  std : List Nat
  obs : List Nat
def memL : List Nat → Nat → Prop
  | [], _ => False
  | p :: l, o => p = o ∨ memL l o
def keepL : List Nat → Nat → Prop
  | [], _ => True
  | p :: l, o => p ≠ o ∧ keepL l o
def stdOK (l : List Nat) : IV → Prop
  | .ptr o _ => memL l o
  | _ => False
def keepOK (l : List Nat) : IV → Prop
  | .ptr o _ => keepL l o
  | _ => True
theorem keep_ne : ∀ {l : List Nat} {o p : Nat}, keepL l o → memL l p → p ≠ o
  | q :: l, o, p, h, hm => by
    unfold keepL at h; unfold memL at hm
    rcases hm with rfl | hm
    · exact h.1
    · exact keep_ne h.2 hm
def quietV : IV → Prop
  | .v (.func (.func f) _ _) => quiet f = true
  | _ => False
/-- A call of a function that stands in a slot: where the slot of its answer is among the steady ones, the function is a quiet one. -/
def callOK (std : List Nat) (d : Option Tmp) (st : St) : Callee → Prop
  | .value (.tmp x) => isRo std d = true → quietV (st.ev (.tmp x))
  | _ => True
def refOK (rf : Rf) (d : Option Tmp) (st : St) : Op → Prop
  | .call c => callOK rf.std d st c.callee
  | .load _ x => (isRo rf.refs d = true → isRef (st.ev x) = true) ∧ (isRo rf.std d = true → stdOK rf.obs (st.ev x))
  | .store _ x _ => keepOK rf.obs (st.ev x)
  | _ => True
theorem wh_eq {p : Prop} {r : Res} : wh p (some r) = some ⟨p ∧ r.p, r.x, r.m⟩ := rfl
theorem stepB_pure {st st' : St} {b : Builtin} {xs : List Operand} {ts : List TypeId} (hp : pureB b ts = true) (h : ∀ x ∈ xs, st'.ev x = st.ev x) {r : Res} (hr : stepB st b xs ts = some r) (hrp : r.p) : r.m = st.m ∧ stepB st' b xs ts = some ⟨r.p, r.x, st'.m⟩ := by
  unfold stepB at hr ⊢
  split at hr
  · rename_i x t
    simp only [h x (by simp)]
    have ht : t ≠ 108 := by simpa [pureB] using hp
    split at hr
    · split at hr
      · cases hr; exact ⟨rfl, rfl⟩
      · cases hr
    · split at hr
      · cases hr; exact ⟨rfl, rfl⟩
      · cases hr
    · cases hr; exact ⟨rfl, rfl⟩
    · obtain ⟨q, hq, e⟩ := wh_some hr
      subst e
      exact absurd hrp.1 ht
    · cases hr
  · rename_i x y
    simp only [h x (by simp), h y (by simp)]
    split at hr
    · cases hr; exact ⟨rfl, rfl⟩
    · cases hr
  · rename_i x y
    simp only [h x (by simp), h y (by simp)]
    split at hr
    · cases hr; exact ⟨rfl, rfl⟩
    · cases hr
  · simp [pureB] at hp
  · simp [pureB] at hp
  · cases hr
set_option maxHeartbeats 4000000 in
theorem stepR_pure {ro : List Nat} {refs : Rf} {d : Option Tmp} {st st' : St} {op : Op} (hc : ∀ c, op ≠ .call c) (hp : pureO ro refs.refs d op = true) (href : refOK refs d st op) (h : ∀ x ∈ op.operands, st'.ev x = st.ev x) {r : Res} (hr : stepR ro d st op = some r) : r.m = st.m ∧ stepR ro d st' op = some ⟨r.p, r.x, st'.m⟩ := by
  have maps : ∀ ps : Array (Nat × Operand), (∀ x ∈ (ps.toList.map (·.2)).toArray, st'.ev x = st.ev x) → (ps.toList.map fun p => (p.1, st'.ev p.2)) = ps.toList.map fun p => (p.1, st.ev p.2) := fun ps hp =>
    List.map_congr_left fun p hm' => by rw [hp p.2 (by simp; exact ⟨p.1, by simpa using hm'⟩)]
  cases op with
  | call c => exact absurd rfl (hc c)
  | move x => have h1 := h x (by simp [Op.operands]); simp only [stepR, h1] at hr ⊢; cases hr; exact ⟨rfl, rfl⟩
  | assign x => have h1 := h x (by simp [Op.operands]); simp only [stepR, h1] at hr ⊢; cases hr; exact ⟨rfl, rfl⟩
  | pick c x y => have h1 := h c (by simp [Op.operands]); have h2 := h x (by simp [Op.operands]); have h3 := h y (by simp [Op.operands]); revert hr; simp only [stepR, h1, h2, h3]; (repeat' split) <;> intro hr <;> first | (cases hr; exact ⟨rfl, rfl⟩) | cases hr
  | box t x =>
    have h1 := h x (by simp [Op.operands])
    have h2 : isRo ro d = true := hp
    revert hr; simp only [stepR, h1, h2, if_true]; (repeat' split) <;> intro hr <;> first | (cases hr; exact ⟨rfl, rfl⟩) | cases hr
  | build t ps => revert hr; simp only [stepR, maps ps h]; (repeat' split) <;> intro hr <;> first | (cases hr; exact ⟨rfl, rfl⟩) | cases hr
  | buildSlice t len ps => revert hr; simp only [stepR, maps ps h]; (repeat' split) <;> intro hr <;> first | (cases hr; exact ⟨rfl, rfl⟩) | cases hr
  | load t x =>
    have h1 := h x (by simp [Op.operands])
    have h2 : isRef (st.ev x) = true := href.1 hp
    have h3 : ldc st' (st.ev x) = ldc st (st.ev x) := by
      generalize st.ev x = y at h2 ⊢
      cases y <;> first | rfl | cases h2
    revert hr; simp only [stepR, h1, h3]; (repeat' split) <;> intro hr <;> first | (cases hr; exact ⟨rfl, rfl⟩) | cases hr
  | nilCheck x => have h1 := h x (by simp [Op.operands]); revert hr; simp only [stepR, h1]; (repeat' split) <;> intro hr <;> first | (cases hr; exact ⟨rfl, rfl⟩) | cases hr
  | binOp op t x y t' =>
    have h1 := h x (by simp [Op.operands]); have h2 := h y (by simp [Op.operands])
    revert hr; simp only [stepR, h1, h2]
    split
    · generalize ibin _ _ _ _ = o
      cases o with
      | none => intro hr; cases hr
      | some v => intro hr; cases hr; exact ⟨rfl, rfl⟩
    · (repeat' split) <;> intro hr <;> first | (cases hr; exact ⟨rfl, rfl⟩) | cases hr
    · generalize eqv _ _ _ _ = o
      cases o with
      | none => cases op <;> (intro hr; cases hr)
      | some v => cases op <;> (intro hr; cases hr) <;> exact ⟨rfl, rfl⟩
  | unOp u t x => have h1 := h x (by simp [Op.operands]); revert hr; simp only [stepR, h1]; (repeat' split) <;> intro hr <;> first | (cases hr; exact ⟨rfl, rfl⟩) | cases hr
  | convert s t x => have h1 := h x (by simp [Op.operands]); revert hr; simp only [stepR, h1]; (repeat' split) <;> intro hr <;> first | (cases hr; exact ⟨rfl, rfl⟩) | cases hr
  | makeInterface t x => have h1 := h x (by simp [Op.operands]); revert hr; simp only [stepR, h1]; (repeat' split) <;> intro hr <;> first | (cases hr; exact ⟨rfl, rfl⟩) | cases hr
  | slice t x lo hi mx =>
    have h1 := h x (by simp [Op.operands])
    cases lo with
    | none => simp [stepR] at hr
    | some lo =>
      cases hi with
      | none => simp [stepR] at hr
      | some hi =>
        cases mx with
        | some _ => simp [stepR] at hr
        | none =>
          have h2 := h lo (by simp [Op.operands]); have h3 := h hi (by simp [Op.operands])
          revert hr; simp only [stepR, h1, h2, h3]; (repeat' split) <;> intro hr <;> first | (cases hr; exact ⟨rfl, rfl⟩) | cases hr
  | fieldAddr t x f => have h1 := h x (by simp [Op.operands]); revert hr; simp only [stepR, h1]; (repeat' split) <;> intro hr <;> first | (cases hr; exact ⟨rfl, rfl⟩) | cases hr
  | indexAddr t x i =>
    have h1 := h x (by simp [Op.operands]); have h2 := h i (by simp [Op.operands])
    revert hr; simp only [stepR, h1, h2]
    generalize st.ev i = vi
    split
    · split
      · (repeat' split) <;> intro hr <;> first | (cases hr; exact ⟨rfl, rfl⟩) | cases hr
      · (repeat' split) <;> intro hr <;> first | (cases hr; exact ⟨rfl, rfl⟩) | cases hr
      · split
        · split
          · generalize IV.off _ _ = o
            cases o with
            | none => intro hr; cases hr
            | some v => intro hr; cases hr; exact ⟨rfl, rfl⟩
          · intro hr; cases hr
        · intro hr; cases hr
    · intro hr; cases hr
  | index t x i =>
    have h1 := h x (by simp [Op.operands]); have h2 := h i (by simp [Op.operands])
    revert hr; simp only [stepR, h1, h2]
    split
    · rename_i b j hb hj
      intro hr
      obtain ⟨q, hq, e⟩ := wh_some hr
      subst e
      revert hq
      cases b[j.toNat]? with
      | none => intro hq; cases hq
      | some v => intro hq; cases hq; exact ⟨rfl, rfl⟩
    · intro hr; cases hr
  | typeAssert x s t ok =>
    have h1 := h x (by simp [Op.operands]); revert hr; simp only [stepR, h1]
    split
    · cases ok with
      | false => intro hr; cases hr; exact ⟨rfl, rfl⟩
      | true =>
        intro hr
        obtain ⟨q, hq, e⟩ := wh_some hr
        subst e
        revert hq
        dsimp only
        split
        · intro hq; cases hq; exact ⟨rfl, rfl⟩
        · split
          · intro hq; cases hq; exact ⟨rfl, rfl⟩
          · intro hq; cases hq
    · intro hr; cases hr
  | extract x i => have h1 := h x (by simp [Op.operands]); revert hr; simp only [stepR, h1]; (repeat' split) <;> intro hr <;> first | (cases hr; exact ⟨rfl, rfl⟩) | cases hr
  | _ => simp [pureO] at hp
/-! ### one operation's effect -/
def readO (std : List Nat) (d : Option Tmp) : Op → Bool
  | .load .. | .lookup .. => true
  | .call c => match c.callee with
    | .builtin .len => true
    | .value (.func f) => quiet f
    | .value (.tmp _) => isRo std d
    | _ => false
  | _ => false
def effN (x : Nx) (st : St) (v : IV) (m' : Mem) : Prop := match x with
  | .val (some r) => r.p ∧ v = r.x ∧ m' = r.m
  | .call f args => Sim f args st.m (fun r m => r = v ∧ m = m') ∧ (quiet f = true → m' = st.m) ∧ (stab f = true → ∀ X : List IObj, Sim f args ⟨st.m.objs ++ X, st.m.rows⟩ (fun r m => r = v ∧ m = ⟨st.m.objs ++ X, st.m.rows⟩))
  | _ => False
def eff (ro : List Nat) (refs : Rf) (o : SO) (st : St) (v : IV) (m' : Mem) : Prop := match gv o.g st with
  | some true => effN (nxt ro o.d st o.op) st v m' ∧ refOK refs o.d st o.op
  | some false => v = und ∧ m' = st.m
  | none => False
theorem St.ev_congr {st st' : St} {x : Operand} (h : ∀ i, x = .tmp i → st'.t i = st.t i) : st'.ev x = st.ev x := by
  cases x with
  | tmp i => exact h i rfl
  | _ => rfl
def opnd : List Operand → List Nat
  | [] => []
  | .tmp i :: xs => i :: opnd xs
  | _ :: xs => opnd xs
theorem opnd_mem {i : Nat} : ∀ {xs : List Operand}, Operand.tmp i ∈ xs → i ∈ opnd xs
  | .tmp j :: xs, h => by
    cases h with
    | head => exact List.mem_cons_self ..
    | tail _ h => exact List.mem_cons_of_mem _ (opnd_mem h)
  | .const _ :: xs, h => by cases h with | tail _ h => exact opnd_mem (xs := xs) h
  | .global _ :: xs, h => by cases h with | tail _ h => exact opnd_mem (xs := xs) h
  | .func _ :: xs, h => by cases h with | tail _ h => exact opnd_mem (xs := xs) h
/-- The slots an operation looks at. -/
def looks (o : SO) : List Nat := (match o.g with | some (some s, _) => [s] | _ => []) ++ opnd o.op.operands.toList
def agree (o : SO) (st st' : St) : Prop := ∀ i ∈ looks o, st'.t i = st.t i
theorem agree.gv {o : SO} {st st' : St} (h : agree o st st') : gv o.g st' = gv o.g st := by
  unfold A.gv
  split
  · rfl
  · rename_i s want e; rw [h s (by unfold looks; rw [e]; simp)]
  · rfl
theorem agree.ev {o : SO} {st st' : St} (h : agree o st st') : ∀ x ∈ o.op.operands, st'.ev x = st.ev x := fun x hx =>
  St.ev_congr fun i e => h i (by unfold looks; exact List.mem_append_right _ (opnd_mem (by rw [← e]; simpa using hx)))
theorem refOK_congr {refs : Rf} {d : Option Tmp} {st st' : St} {op : Op} (h : ∀ x ∈ op.operands, st'.ev x = st.ev x) : refOK refs d st op ↔ refOK refs d st' op := by
  cases op with
  | load t x => simp only [refOK, h x (by simp [Op.operands])]
  | store t x y => simp only [refOK, h x (by simp [Op.operands])]
  | call c =>
    simp only [refOK]
    unfold callOK
    split
    · rename_i x hc
      rw [h (.tmp x) (by simp [Op.operands, Call.operands, hc])]
    · exact Iff.rfl
  | _ => exact Iff.rfl
section
variable {n : Nat} {ro : List Nat} {refs : Rf} {o a b : SO} {st st' : St} {v x y : IV} {m' m1 m2 : Mem}
theorem eff_congr (hm : st'.m = st.m) (h : agree o st st') (he : eff ro refs o st v m') : eff ro refs o st' v m' := by
  unfold eff at he ⊢
  rw [h.gv]
  split at he
  · rename_i e
    refine ⟨?_, (refOK_congr h.ev).1 he.2⟩
    rw [nxt_congr hm h.ev]
    have := he.1
    unfold effN at this ⊢
    rw [hm]; exact this
  · rw [hm]; exact he
  · exact he
theorem nxt_op {d : Option Tmp} {op : Op} (hc : ∀ c, op ≠ .call c) : nxt ro d st op = .val (stepR ro d st op) := by
  cases op with
  | call c => exact absurd rfl (hc c)
  | _ => rfl
theorem eff_pure (hp : pureO ro refs.refs o.d o.op = true) (he : eff ro refs o st v m') : m' = st.m ∧ ∀ st', agree o st st' → eff ro refs o st' v st'.m := by
  unfold eff at he
  split at he
  · rename_i e
    obtain ⟨he, hr⟩ := he
    have key : m' = st.m ∧ ∀ st', agree o st st' → effN (nxt ro o.d st' o.op) st' v st'.m := by
      cases hop : o.op with
      | call c =>
        rw [hop] at he hp
        simp only [pureO] at hp
        simp only [nxt, nxC] at he
        split at hp
        · rename_i bb hb
          rw [hb] at he
          simp only at he
          cases hs : stepB st bb c.args.toList c.argTypes.toList with
          | none => rw [hs] at he; exact he.elim
          | some r =>
            rw [hs] at he
            obtain ⟨h1, h2, h3⟩ := he
            have hargs : ∀ st', agree o st st' → ∀ x ∈ c.args.toList, st'.ev x = st.ev x := fun st' h x hx => h.ev x (by rw [hop]; simp [Op.operands, Call.operands]; exact .inr (by simpa using hx))
            refine ⟨?_, fun st' h => ?_⟩
            · rw [h3]; exact (stepB_pure hp (fun _ _ => rfl) hs h1).1
            · simp only [nxt, nxC, hb, (stepB_pure hp (hargs st' h) hs h1).2]
              exact ⟨h1, h2, rfl⟩
        · cases hp
      | _ =>
        have hc : ∀ c, o.op ≠ .call c := by rw [hop]; intro c; simp
        rw [nxt_op hc] at he
        cases hs : stepR ro o.d st o.op with
        | none => rw [hs] at he; exact he.elim
        | some r =>
          rw [hs] at he
          obtain ⟨h1, h2, h3⟩ := he
          refine ⟨?_, fun st' h => ?_⟩
          · rw [h3]; exact (stepR_pure hc hp hr (fun _ _ => rfl) hs).1
          · rw [← hop, nxt_op hc, (stepR_pure hc hp hr h.ev hs).2]
            exact ⟨h1, h2, rfl⟩
    refine ⟨key.1, fun st' h => ?_⟩
    unfold eff
    rw [h.gv, e]
    exact ⟨key.2 st' h, (refOK_congr h.ev).1 hr⟩
  · rename_i e
    refine ⟨he.2, fun st' h => ?_⟩
    unfold eff
    rw [h.gv, e]
    exact ⟨he.1, rfl⟩
  · exact he.elim
theorem stepB_len {xs : List Operand} {ts : List TypeId} {r : Res} (hr : stepB st .len xs ts = some r) : r.m = st.m := by
  unfold stepB at hr
  split at hr
  · split at hr
    · split at hr
      · cases hr; rfl
      · cases hr
    · split at hr
      · cases hr; rfl
      · cases hr
    · cases hr; rfl
    · obtain ⟨q, hq, e⟩ := wh_some hr
      subst e
      split at hq
      · cases hq; rfl
      · cases hq
    · cases hr
  all_goals first | (cases hr; done) | contradiction
theorem eff_read (hp : readO refs.std o.d o.op = true) (he : eff ro refs o st v m') : m' = st.m := by
  unfold eff at he
  split at he
  · obtain ⟨he, hrf⟩ := he
    cases hop : o.op with
    | call c =>
      rw [hop] at he hp hrf
      simp only [readO] at hp
      simp only [nxt, nxC] at he
      split at hp
      · rename_i hb
        rw [hb] at he
        simp only at he
        cases hs : stepB st .len c.args.toList c.argTypes.toList with
        | none => rw [hs] at he; exact he.elim
        | some r => rw [hs] at he; rw [he.2.2]; exact stepB_len hs
      · rename_i f hb
        rw [hb] at he
        simp only [St.ev, callN] at he
        split at he
        · exact he.2.1 hp
        · exact he.elim
      · rename_i x hb
        rw [hb] at he
        simp only [refOK, callOK, hb] at hrf
        have hq := hrf hp
        simp only [callN] at he
        revert he hq
        generalize st.ev (.tmp x) = y
        intro he hq
        split at he
        · split at he
          · exact he.2.1 hq
          · exact he.elim
        · exact he.elim
      · cases hp
    | load t p =>
      rw [hop] at he
      cases hs : stepR ro o.d st (.load t p) with
      | none => simp only [nxt, hs] at he; exact he.elim
      | some r =>
        simp only [nxt, hs] at he
        rw [he.2.2]
        revert hs
        simp only [stepR]
        (repeat' split) <;> intro hr <;> first | (cases hr; rfl) | cases hr
    | lookup t p q ok =>
      rw [hop] at he
      cases hs : stepR ro o.d st (.lookup t p q ok) with
      | none => simp only [nxt, hs] at he; exact he.elim
      | some r =>
        simp only [nxt, hs] at he
        rw [he.2.2]
        revert hs
        simp only [stepR]
        split
        · intro hs
          obtain ⟨z, hz, e⟩ := wh_some hs
          subst e
          revert hz
          (repeat' split) <;> intro hr <;> first | (cases hr; rfl) | cases hr
        · intro hr; cases hr
    | _ => rw [hop] at hp; cases hp
  · exact he.2
  · exact he.elim
/-! ### two neighbours change places -/
def apart (a b : SO) : Bool := match a.d with
  | some d => !(looks b).contains d && b.d != some d
  | none => true
def isLoad : Op → Bool
  | .load .. => true
  | _ => false
def isStore : Op → Bool
  | .store .. => true
  | .call c => match c.callee with
    | .builtin .append => true
    | _ => false
  | _ => false
def isAlloc : Op → Bool
  | .alloc _ => true
  | _ => false
/-- What looks at memory and does not mind a new object. -/
def isLS : Op → Bool
  | .load .. => true
  | .call c => match c.callee with
    | .value (.func f) => quiet f && stab f
    | _ => false
  | _ => false
/-- 0: no memory; 1: looks at it; 2: changes it; 3: a store, or an append; 4: a load of what the stores leave alone. -/
def cls (ro : List Nat) (refs : Rf) (o : SO) : Nat := if pureO ro refs.refs o.d o.op then 0 else if isLoad o.op && isRo refs.std o.d then 4 else if readO refs.std o.d o.op then 1 else if isStore o.op then 3 else 2
def rdc (n : Nat) : Bool := n == 1 || n == 4
def indep (ro : List Nat) (refs : Rf) (a b : SO) : Bool := apart a b && apart b a && (cls ro refs a == 0 || (cls ro refs b == 0 || ((rdc (cls ro refs a) && rdc (cls ro refs b)) || ((cls ro refs a == 4 && cls ro refs b == 3) || ((cls ro refs a == 3 && cls ro refs b == 4) || (isLS a.op && isAlloc b.op))))))
theorem eff_steady (hl : isLoad o.op = true) (hs : isRo refs.std o.d = true) (he : eff ro refs o st v m') : m' = st.m ∧ ∀ st', agree o st st' → (∀ p, memL refs.obs p → st'.m.objs[p]? = st.m.objs[p]?) → eff ro refs o st' v st'.m := by
  have hop : ∃ t x, o.op = .load t x := by
    cases ho : o.op with
    | load t x => exact ⟨t, x, rfl⟩
    | _ => rw [ho] at hl; cases hl
  obtain ⟨t, x, hop⟩ := hop
  unfold eff at he
  split at he
  · rename_i e
    obtain ⟨he, hr⟩ := he
    rw [hop] at hr
    have hst := hr.2 hs
    rw [hop] at he
    simp only [nxt] at he
    cases hs2 : stepR ro o.d st (.load t x) with
    | none => rw [hs2] at he; exact he.elim
    | some r =>
      rw [hs2] at he
      obtain ⟨h1, h2, h3⟩ := he
      have hld : ∀ st', agree o st st' → (∀ p, memL refs.obs p → st'.m.objs[p]? = st.m.objs[p]?) → ldc st' (st.ev x) = ldc st (st.ev x) := by
        intro st' _ ho
        generalize st.ev x = z at hst ⊢
        cases z with
        | ptr q off =>
          have := ho q hst
          simp only [ldc, Mem.at_, this]
        | _ => exact hst.elim
      refine ⟨?_, fun st' hag ho => ?_⟩
      · rw [h3]
        revert hs2
        simp only [stepR]
        (repeat' split) <;> intro hr <;> first | (cases hr; rfl) | cases hr
      · unfold eff
        rw [hag.gv, e]
        refine ⟨?_, (refOK_congr hag.ev).1 (by rw [hop]; exact hr)⟩
        have hev : st'.ev x = st.ev x := hag.ev x (by rw [hop]; simp [Op.operands])
        have hl2 := hld st' hag ho
        rw [hop]
        simp only [nxt]
        have : stepR ro o.d st' (.load t x) = some ⟨r.p, r.x, st'.m⟩ := by
          revert hs2
          simp only [stepR, hev, hl2]
          (repeat' split) <;> intro hr <;> first | (cases hr; rfl) | cases hr
        rw [this]
        exact ⟨h1, h2, rfl⟩
  · rename_i e
    refine ⟨he.2, fun st' hag _ => ?_⟩
    unfold eff
    rw [hag.gv, e]
    exact ⟨he.1, rfl⟩
  · exact he.elim
theorem stepB_append {xs : List Operand} {ts : List TypeId} {r : Res} (hr : stepB st .append xs ts = some r) : r.m.objs = st.m.objs := by
  unfold stepB at hr
  split at hr
  all_goals first | contradiction | (cases hr; done) | skip
  obtain ⟨q, hq, e⟩ := wh_some hr
  subst e
  split at hq
  · split at hq
    · split at hq
      · obtain ⟨q2, hq2, e⟩ := wh_some hq
        subst e
        split at hq2
        · cases hq2; rfl
        · cases hq2
      · cases hq
    · cases hq
  · split at hq
    · split at hq
      · split at hq
        · obtain ⟨q2, hq2, e⟩ := wh_some hq
          subst e
          split at hq2
          · cases hq2; rfl
          · cases hq2
        · cases hq
      · cases hq
    · cases hq
  · cases hq
theorem eff_store (hl : isStore o.op = true) (he : eff ro refs o st v m') : ∀ p, memL refs.obs p → m'.objs[p]? = st.m.objs[p]? := by
  unfold eff at he
  split at he
  · obtain ⟨he, hr⟩ := he
    cases ho : o.op with
    | store t x y =>
      rw [ho] at hr he
      simp only [nxt] at he
      cases hs2 : stepR ro o.d st (.store t x y) with
      | none => rw [hs2] at he; exact he.elim
      | some r =>
        rw [hs2] at he
        intro p hp
        rw [he.2.2]
        revert hs2
        simp only [stepR]
        split
        · split
          · rename_i q off c hq hcc
            split
            · intro hr2
              cases hr2
              have hne : p ≠ q := by
                have h4 : keepOK refs.obs (st.ev x) := hr
                rw [hq] at h4
                exact keep_ne h4 hp
              simp only
              rw [List.getElem?_set_ne (fun e => hne e.symm)]
            · intro hr2; cases hr2
          · intro hr2; cases hr2
        · intro hr2; cases hr2
    | call c =>
      rw [ho] at hl he
      simp only [isStore] at hl
      split at hl
      · rename_i hb
        simp only [nxt, nxC, hb] at he
        cases hs : stepB st .append c.args.toList c.argTypes.toList with
        | none => rw [hs] at he; exact he.elim
        | some r =>
          rw [hs] at he
          intro p _
          rw [he.2.2, stepB_append hs]
      · cases hl
    | _ => rw [ho] at hl; cases hl
  · intro p _; rw [he.2]
  · exact he.elim
theorem eff_alloc (hl : isAlloc o.op = true) (he : eff ro refs o st v m') : ∃ X : List IObj, m' = ⟨st.m.objs ++ X, st.m.rows⟩ := by
  have hop : ∃ t, o.op = .alloc t := by
    cases ho : o.op with
    | alloc t => exact ⟨t, rfl⟩
    | _ => rw [ho] at hl; cases hl
  obtain ⟨t, hop⟩ := hop
  unfold eff at he
  split at he
  · obtain ⟨he, -⟩ := he
    rw [hop] at he
    simp only [nxt] at he
    cases hs : stepR ro o.d st (.alloc t) with
    | none => rw [hs] at he; exact he.elim
    | some r =>
      rw [hs] at he
      revert hs
      simp only [stepR]
      split
      · intro hr; cases hr; exact ⟨_, he.2.2⟩
      · intro hr; cases hr
  · exact ⟨[], by rw [he.2]; simp⟩
  · exact he.elim
theorem ldc_ext {st st' : St} {x : IV} {l X : List IV} {Y : List IObj} (h : ldc st x = some l) (hm : st'.m = ⟨st.m.objs ++ Y, st.m.rows⟩) : ldc st' x = some l := by
  revert h
  unfold ldc
  split
  · exact fun h => h
  · intro h
    rw [hm]
    unfold Mem.at_ at h ⊢
    split at h
    · rename_i hq
      rw [List.getElem?_append_left (List.getElem?_eq_some_iff.1 hq).1, hq]; exact h
    · cases h
  · exact fun h => h
theorem eff_ls (hl : isLS o.op = true) (he : eff ro refs o st v m') : m' = st.m ∧ ∀ (X : List IObj) (st' : St), agree o st st' → st'.m = ⟨st.m.objs ++ X, st.m.rows⟩ → eff ro refs o st' v ⟨st.m.objs ++ X, st.m.rows⟩ := by
  unfold eff at he
  split at he
  · rename_i e
    obtain ⟨he, hr⟩ := he
    cases hop : o.op with
    | load t p =>
      rw [hop] at he
      simp only [nxt] at he
      cases hs : stepR ro o.d st (.load t p) with
      | none => rw [hs] at he; exact he.elim
      | some r =>
        rw [hs] at he
        obtain ⟨h1, h2, h3⟩ := he
        have key : r.m = st.m ∧ ∀ (X : List IObj) (st' : St), st'.ev p = st.ev p → st'.m = ⟨st.m.objs ++ X, st.m.rows⟩ → stepR ro o.d st' (.load t p) = some ⟨r.p, r.x, st'.m⟩ := by
          revert hs
          simp only [stepR]
          split
          · rename_i ag sz by_ ht
            split
            · rename_i l hld
              split
              · rename_i y hy
                intro hr2
                cases hr2
                refine ⟨rfl, fun X st' hev hm => ?_⟩
                have := ldc_ext (X := []) hld hm
                rw [hev, this]
                dsimp only
                rw [hy]
              · intro hr2; cases hr2
            · intro hr2; cases hr2
          · intro hr2; cases hr2
        refine ⟨h3.trans key.1, fun X st' hag hm => ?_⟩
        unfold eff
        rw [hag.gv, e]
        refine ⟨?_, (refOK_congr hag.ev).1 hr⟩
        rw [hop]
        simp only [nxt]
        rw [key.2 X st' (hag.ev p (by rw [hop]; simp [Op.operands])) hm]
        exact ⟨h1, h2, hm.symm⟩
    | call c =>
      rw [hop] at hl
      simp only [isLS] at hl
      split at hl
      · rename_i f hb
        simp only [Bool.and_eq_true] at hl
        have hargs : ∀ st', agree o st st' → nxC st' c = nxC st c := fun st' hag => by
          have h1 : ∀ x ∈ c.args.toList, st'.ev x = st.ev x := fun x hx => hag.ev x (by rw [hop]; simp [Op.operands, Call.operands]; exact .inr (by simpa using hx))
          simp only [nxC, hb, St.ev]
          rw [List.map_congr_left h1]
        rw [hop] at he
        simp only [nxt] at he
        cases hn : nxC st c with
        | val r =>
          exfalso
          rw [hn] at he
          simp only [nxC, hb, St.ev, callN] at hn
          split at hn
          · cases hn
          · cases hn; exact he
        | call g args =>
          have hg : g = f := by
            simp only [nxC, hb, St.ev, callN] at hn
            split at hn
            · cases hn; rfl
            · cases hn
          subst hg
          rw [hn] at he
          obtain ⟨h1, h2, h3⟩ := he
          refine ⟨h2 hl.1, fun X st' hag hm => ?_⟩
          unfold eff
          rw [hag.gv, e]
          refine ⟨?_, (refOK_congr hag.ev).1 hr⟩
          rw [hop]
          simp only [nxt]
          rw [hargs st' hag, hn]
          refine ⟨?_, fun _ => hm.symm, fun _ Y => ?_⟩
          · rw [hm]; exact h3 hl.2 X
          · rw [hm]
            have := h3 hl.2 (X ++ Y)
            rw [← List.append_assoc] at this
            exact this
      · cases hl
    | _ => rw [hop] at hl; cases hl
  · rename_i e
    refine ⟨he.2, fun X st' hag hm => ?_⟩
    unfold eff
    rw [hag.gv, e]
    exact ⟨he.1, hm.symm⟩
  · exact he.elim
theorem apart.agree (h : apart a b = true) (x : IV) (m : Mem) : agree b st (St.put ⟨st.t, m⟩ a.d x) := by
  intro i hi
  unfold apart at h
  cases hd : a.d with
  | none => rfl
  | some d =>
    rw [hd] at h
    simp only [Bool.and_eq_true, Bool.not_eq_true'] at h
    show upd st.t d x i = _
    unfold upd
    split
    · rename_i e
      subst e
      exfalso
      have := h.1
      simp at this
      exact this hi
    · rfl
theorem agree.symm (h : agree o st st') : agree o st' st := fun i hi => (h i hi).symm
theorem put_comm (h : apart a b = true) (m1 m2 m3 : Mem) : St.put ⟨(St.put ⟨st.t, m1⟩ a.d x).t, m3⟩ b.d y = St.put ⟨(St.put ⟨st.t, m2⟩ b.d y).t, m3⟩ a.d x := by
  cases ha : a.d with
  | none => cases hb : b.d <;> rfl
  | some d =>
    cases hb : b.d with
    | none => rfl
    | some e =>
      have hne : d ≠ e := by
        intro e'
        unfold apart at h
        rw [ha, hb, e'] at h
        simp at h
      show (⟨upd (upd st.t d x) e y, m3⟩ : St) = ⟨upd (upd st.t e y) d x, m3⟩
      congr 1
      funext i
      unfold upd
      split <;> split <;> first | rfl | (exfalso; apply hne; subst_vars; rfl)
theorem eff_swap (hi : indep ro refs a b = true) (ha : eff ro refs a st x m1) (hb : eff ro refs b (St.put ⟨st.t, m1⟩ a.d x) y m2) : ∃ m3, eff ro refs b st y m3 ∧ eff ro refs a (St.put ⟨st.t, m3⟩ b.d y) x m2 := by
  unfold indep at hi
  simp only [Bool.and_eq_true, Bool.or_eq_true, beq_iff_eq] at hi
  obtain ⟨⟨hab, hba⟩, hc⟩ := hi
  have hm : ∀ (t : Nat → IV) (m : Mem) (d : Option Tmp) (z : IV), (St.put ⟨t, m⟩ d z).m = m := by intro t m d z; cases d <;> rfl
  have g1 : ∀ m, agree b (St.put ⟨st.t, m⟩ a.d x) st := fun m => (apart.agree hab x m).symm
  have g2 : ∀ m, agree a st (St.put ⟨st.t, m⟩ b.d y) := fun m => apart.agree hba y m
  have pur : ∀ c : SO, cls ro refs c = 0 → pureO ro refs.refs c.d c.op = true := by
    intro c h; unfold cls at h; split at h
    · assumption
    · exfalso; revert h; (repeat' split) <;> decide
  have red : ∀ c : SO, rdc (cls ro refs c) = true → readO refs.std c.d c.op = true := by
    intro c h; unfold cls at h; split at h
    · cases h
    · split at h
      · rename_i hl
        simp only [Bool.and_eq_true] at hl
        cases ho : c.op with
        | load t x => rfl
        | _ => rw [ho] at hl; cases hl.1
      · split at h
        · assumption
        · exfalso; revert h; split <;> decide
  have st4 : ∀ c : SO, cls ro refs c = 4 → isLoad c.op = true ∧ isRo refs.std c.d = true := by
    intro c h; unfold cls at h; split at h
    · cases h
    · split at h
      · rename_i hl; simpa using hl
      · exfalso; revert h; (repeat' split) <;> decide
  have st3 : ∀ c : SO, cls ro refs c = 3 → isStore c.op = true := by
    intro c h; unfold cls at h; split at h
    · cases h
    · split at h
      · cases h
      · split at h
        · cases h
        · split at h
          · assumption
          · cases h
  rcases hc with hc | hc | hc | hc | hc | hc
  · obtain ⟨e1, e2⟩ := eff_pure (pur _ hc) ha
    subst e1
    exact ⟨m2, eff_congr (by rw [hm]) (g1 _) hb, by have := e2 _ (g2 m2); rwa [hm] at this⟩
  · obtain ⟨e1, e2⟩ := eff_pure (pur _ hc) hb
    rw [hm] at e1
    subst e1
    exact ⟨st.m, e2 _ (g1 _), eff_congr (by rw [hm]) (g2 _) ha⟩
  · have e1 := eff_read (red _ hc.1) ha
    subst e1
    have e2 := eff_read (red _ hc.2) hb
    rw [hm] at e2
    subst e2
    exact ⟨st.m, eff_congr (by rw [hm]) (g1 _) hb, eff_congr (by rw [hm]) (g2 _) ha⟩
  · obtain ⟨e1, e2⟩ := eff_steady (st4 _ hc.1).1 (st4 _ hc.1).2 ha
    subst e1
    have hb' : eff ro refs b st y m2 := eff_congr (by rw [hm]) (g1 _) hb
    refine ⟨m2, hb', ?_⟩
    have := e2 _ (g2 m2) (fun p hp => by rw [hm]; exact eff_store (st3 _ hc.2) hb' p hp)
    rwa [hm] at this
  · obtain ⟨e1, e2⟩ := eff_steady (st4 _ hc.2).1 (st4 _ hc.2).2 hb
    rw [hm] at e1
    subst e1
    exact ⟨st.m, e2 _ (g1 _) (fun p hp => by rw [hm]; exact (eff_store (st3 _ hc.1) ha p hp).symm), eff_congr (by rw [hm]) (g2 _) ha⟩
  · have e1 := eff_ls hc.1 ha
    rw [e1.1] at hb
    have hb' : eff ro refs b st y m2 := eff_congr (by rw [hm]) (fun i hi => (g1 st.m i hi)) hb
    obtain ⟨X, hX⟩ := eff_alloc hc.2 hb'
    refine ⟨m2, hb', ?_⟩
    have := e1.2 X _ (g2 m2) (by rw [hm]; exact hX)
    rw [← hX] at this
    exact this
/-- A run in the text's order. -/
def OpsR (n : Nat) (ro : List Nat) (refs : Rf) : List SO → St → (St → Prop) → Prop
  | [], st, K => K st
  | o :: os, st, K => dstOK n o.d = true ∧ ∃ v m', eff ro refs o st v m' ∧ OpsR n ro refs os (St.put ⟨st.t, m'⟩ o.d v) K
theorem OpsR_pull {b : SO} {K : St → Prop} : ∀ (l1 l2 : List SO) (st : St), (∀ a ∈ l1, indep ro refs a b = true) → OpsR n ro refs (l1 ++ b :: l2) st K → OpsR n ro refs (b :: (l1 ++ l2)) st K
  | [], l2, st, _, h => h
  | a :: l1, l2, st, hi, h => by
    simp only [List.cons_append] at h ⊢
    obtain ⟨hd, v, m1, ha, h⟩ := h
    obtain ⟨hd2, y, m2, hb, h⟩ := OpsR_pull l1 l2 _ (fun c hc => hi c (List.mem_cons_of_mem _ hc)) h
    obtain ⟨m3, e1, e2⟩ := eff_swap (hi a (List.mem_cons_self ..)) ha hb
    refine ⟨hd2, y, m3, e1, hd, v, m2, e2, ?_⟩
    have hab : apart a b = true := by
      have := hi a (List.mem_cons_self ..)
      unfold indep at this
      simp only [Bool.and_eq_true] at this
      exact this.1.1
    rw [put_comm hab m1 m3 m2] at h
    exact h
end
end Go.Proofs.Ytphjldhdnmoolaa.A
