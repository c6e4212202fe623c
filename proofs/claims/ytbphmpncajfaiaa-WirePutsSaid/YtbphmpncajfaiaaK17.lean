/- Joined by merge.py of: YtbphmpncajfaiaaK14, YtbphmpncajfaiaaK15, YtbphmpncajfaiaaK16 -/
import Derived.Test.YtbphmpncajfaiaaK0
import Derived.Test.YtbphmpncajfaiaaWShare
import Derived.Test.YtbphmpncajfaiaaWApart
import Derived.Laws.AppendOwn
import Derived.Test.YtbphmpncajfaiaaPyx0
import Derived.BigQuiet
import Derived.Test.YtbphmpncajfaiaaK1
import Derived.Test.YtbphmpncajfaiaaK8
import Derived.Test.YtbphmpncajfaiaaK12
import Derived.Test.YtbphmpncajfaiaaPyx9
import Derived.Test.YtbphmpncajfaiaaPyx19
import Derived.Test.YtbphmpncajfaiaaM4
import Derived.Test.YtbphmpncajfaiaaM9
/- Words for Apart: rows of one's own, each with its owner; an append that says what becomes of the elder row. -/
namespace Go.Proofs.Ytbphmpncajfaiaa.K
open Go.RowKit Go.Proofs.YtbphmpncajfaiaaW.PrintWords Go.Proofs.YtbphmpncajfaiaaW.PrintLast Go.Proofs.YtbphmpncajfaiaaW.PrintMore
set_option linter.unusedVariables false
set_option linter.unusedSimpArgs false
def slp (p : Option Addr × Nat × Nat) : Value := .slice p.1 p.2.1 p.2.2
theorem slp_one : ∀ x, (slp x).oneCell' = true := fun _ => rfl
abbrev SL : Kd (Option Addr × Nat × Nat) := Kd.scalar slp slp_one
abbrev U8 : Kd Int := Kd.int .u8
def bval (k j : Int) : Int := (31 * k + 7 * j + 1) % 256
def fill (k n : Nat) : List Int := (List.range n).map (fun j : Nat => bval k j)
theorem fill_len (k n : Nat) : (fill k n).length = n := by simp [fill]
theorem fill_succ (k n : Nat) : fill k (n + 1) = fill k n ++ [bval k n] := by simp [fill, List.range_succ]
theorem fill_take (k : Nat) {m n : Nat} (h : m ≤ n) : (fill k n).take m = fill k m := by
  unfold fill
  rw [← List.map_take, List.take_range, Nat.min_eq_left h]
theorem fill_at (k : Nat) {n : Nat} (j : Int) (h0 : 0 ≤ j) (h : j < n) : rd (fill k n) j = bval k j := by
  obtain ⟨m, rfl⟩ : ∃ m : Nat, j = m := ⟨j.toNat, by omega⟩
  have hm : m < n := by omega
  unfold rd fill
  simp [List.getElem?_range hm]
/-- Rows of one's own may be told of another footprint, where theirs is known. -/
theorem R_retag {α : Type} {d : Kd α} {e base : Nat} {ok ok' : Nat → Prop} {w : World} {v : Value} {xs : List α} (h : d.R e w base ok v xs) (hk : ∀ k, ok k → k < w.heap.size → ok' k) : d.R e w base ok' v xs :=
  Kd.R_mono (Kd.R_bound h) (fun k hk' => hk k hk'.1 hk'.2.2.1)
theorem F_retag {α : Type} {d : Kd α} {n : Nat} {ok ok' : Nat → Prop} {w : World} {A : Option Addr} {xs : List α} (h : Kd.F d w ok A n xs) (hk : ∀ k, ok k → k < w.heap.size → ok' k) : Kd.F d w ok' A n xs :=
  Kd.F_mono (Kd.F_bound h) (fun k hk' => hk k hk'.1 hk'.2)
section
variable {P : Program} {ops : Array Oper} {rest : List Oper} {o : Oper} {a : Act} {Q : Exit → Act → World → Prop}
theorem R_append_keep {W w0 : World} (base : Nat) (hgd : o.guard = none) (s x : Operand) (t : TypeId)
    (ho : o.op = .call { callee := .builtin .append, args := #[s, x], argTypes := #[t, t] })
    (ht : P.underlying t = some (.slice 5)) (hinfo : (P.info? 5).map (fun i => (i.zero, i.size, i.bytes)) = some (some (.int .u8 0), 1, 1))
    (v : Value) (xs : List Int) (p : Int) (ok : Nat → Prop) (hs : a.eval s = v) (hx : a.eval x = .slice (some ⟨W.heap.size, 0, none⟩) 1 1)
    (HO : U8.R 5 W base ok v xs) (hbase : base ≤ W.heap.size) (hl : xs.length + 1 ≤ 140737488355328)
    (h : ∀ v1 w1, (v1.ownBlock = v.ownBlock ∧ U8.R 5 w1 base ok v1 (xs ++ [p]) ∧ W.grownBy w1 v.ownBlock) ∨ (U8.R 5 w1 W.heap.size (fun k => W.heap.size ≤ k) v1 (xs ++ [p]) ∧ Below W.heap.size W w1) → wpList P ops Q rest (a.put o.dst v1) w1) :
    wpList P ops Q (o :: rest) a (W.alloc (.cells #[.int .u8 p] 5)) := by
  obtain ⟨i, hi, hz, hsz, hby⟩ : ∃ i, P.info? 5 = some i ∧ i.zero = some (.int .u8 0) ∧ i.size = 1 ∧ i.bytes = 1 := by
    cases hx : P.info? 5 with
    | none => rw [hx] at hinfo; cases hinfo
    | some i =>
      rw [hx] at hinfo
      simp only [Option.map_some, Option.some.injEq, Prod.mk.injEq] at hinfo
      exact ⟨i, rfl, hinfo.1, hinfo.2.1, hinfo.2.2⟩
  refine wpList_plain hgd fun K hK => ?_
  have hown := Kd.own_of_R (enc := Value.int .u8) (h1 := fun _ => rfl) HO
  have hbx : ∀ j u, [Value.int .u8 p][j]? = some u → (W.alloc (.cells #[.int .u8 p] 5)).cell? ((⟨W.heap.size, 0, none⟩ : Addr).add j) = some u := by
    exact cell_one_new _ _ _
  have hbelow : Below W.heap.size W (W.alloc (.cells #[.int .u8 p] 5)) := below_alloc (Below.refl _ _) _
  have hsm : xs.length + 1 ≤ 9223372036854775807 := by omega
  have hmx : xs.length + 1 ≤ maxLen := by unfold maxLen; omega
  have key : ∃ v1 w1, (Builtin.append_ #[t, t] o.type #[v, .slice (some ⟨W.heap.size, 0, none⟩) 1 1]).run P (W.alloc (.cells #[.int .u8 p] 5)) = .ok v1 w1 ∧
      ((v1.ownBlock = v.ownBlock ∧ U8.R 5 w1 base ok v1 (xs ++ [p]) ∧ W.grownBy w1 v.ownBlock) ∨ (U8.R 5 w1 W.heap.size (fun k => W.heap.size ≤ k) v1 (xs ++ [p]) ∧ Below W.heap.size W w1)) := by
    have hfresh : ∀ (old : Nat), old < xs.length + 1 → ∀ w1, w1 = (W.alloc (.cells #[.int .u8 p] 5)).drew.alloc (.cells ((encs (Value.int .u8) xs).toArray ++ #[Value.int .u8 p] ++ Builtin.zeroCells (Value.int .u8 0).cells (grownCap (W.alloc (.cells #[.int .u8 p] 5)) (xs.length + 1) old 5 - (xs.length + 1))) 5) →
        (U8.R 5 w1 W.heap.size (fun k => W.heap.size ≤ k) (.slice (some ⟨(W.alloc (.cells #[.int .u8 p] 5)).heap.size, 0, none⟩) (xs.length + 1) (grownCap (W.alloc (.cells #[.int .u8 p] 5)) (xs.length + 1) old 5)) (xs ++ [p]) ∧ Below W.heap.size W w1) := by
      intro old hold w1 hw1
      subst hw1
      have hge := grownCap_ge (W.alloc (.cells #[.int .u8 p] 5)) (xs.length + 1) old 5
      have hcm : grownCap (W.alloc (.cells #[.int .u8 p] 5)) (xs.length + 1) old 5 ≤ maxLen := grownCap_le_maxLen _ (xs.length + 1) old 5 hmx
      have hsz1 : (W.alloc (.cells #[.int .u8 p] 5)).heap.size = W.heap.size + 1 := by simp
      refine ⟨Kd.R_of_own (enc := Value.int .u8) (h1 := fun _ => rfl) ⟨by simp [encs], .inr ⟨_, _, _, by simp, by simp, heap_alloc_new (W.alloc (.cells #[.int .u8 p] 5)).drew _, by simpa using hge, hcm, ?_, ?_⟩⟩ ?_, ?_⟩
      · simp only [Array.size_append, List.size_toArray, size_zeroCells, encs, List.length_map]
        simp [Value.cells]
        omega
      · simp only [encs, Nat.mul_one, Array.toList_append, List.append_assoc, List.map_append, List.map_cons, List.map_nil]
        rw [← List.append_assoc]
        exact List.take_left' (by simp)
      · intro k hk
        simp only [Value.ownBlock, Option.some.injEq] at hk
        omega
      · exact below_alloc (below_drew (below_alloc (Below.refl _ _) _)) _
    rcases hown.2 with ⟨rfl, hn⟩ | ⟨g, cap, cur, rfl, hbg, hg, hnc, hcm, hcs, htake⟩
    · have hxn : xs = [] := List.eq_nil_of_length_eq_zero hn
      subst hxn
      have hr := run_append_nil (P := P) (W.alloc (.cells #[.int .u8 p] 5)) t o.type 5 i (.int .u8 0) ht hi hz ⟨W.heap.size, 0, none⟩ 1 1 [.int .u8 p] (by simp [hsz]) hbx (by omega) (by omega) (by rw [hby]; omega)
      refine ⟨_, _, hr, .inr ?_⟩
      have := hfresh 0 (by simp) _ rfl
      simpa [encs] using this
    · have hg1 : (W.alloc (.cells #[.int .u8 p] 5)).heap[g]? = some (.cells cur 5 (0, 0)) := by
        rw [hbelow.block g (Array.getElem?_eq_some_iff.1 hg).1]; exact hg
      have hglt := (Array.getElem?_eq_some_iff.1 hg).1
      by_cases hroom : xs.length + 1 ≤ cap
      · have hr := run_append_room (P := P) (W.alloc (.cells #[.int .u8 p] 5)) t o.type 5 i ht hi g xs.length cap cur hg1 ⟨W.heap.size, 0, none⟩ 1 1 [.int .u8 p] (by simp [hsz]) hbx (by simp; rfl) hroom (by rw [hsz]; simp; omega)
        refine ⟨_, _, hr, .inl ⟨rfl, Kd.R_of_own (enc := Value.int .u8) (h1 := fun _ => rfl) ⟨by simp [encs], .inr ⟨g, cap, _, by simp, hbg, setRow_heap _ g cur _ 5 _ hg1, by simpa using hroom, hcm, ?_, ?_⟩⟩ (fun k hk => HO.1 k hk), ⟨rfl, rfl, rfl, ?_, fun k hk hne => ?_⟩⟩⟩
        · rw [hsz]; simp; omega
        · rw [hsz]
          have hlen : (encs (Value.int .u8) xs).length = xs.length := by simp [encs]
          simp only [Nat.mul_one] at htake ⊢
          rw [htake]
          simp only [encs, List.append_assoc, List.map_append, List.map_cons, List.map_nil]
          rw [← List.append_assoc]
          exact List.take_left' (by simp)
        · simp [World.setRow]
        · rw [setRow_other _ g k _ (fun e => hne (by simp [Value.ownBlock, e]))]
          exact hbelow.block k hk
      · have holds : ∀ j u, (encs (Value.int .u8) xs)[j]? = some u → (W.alloc (.cells #[.int .u8 p] 5)).cell? ((⟨g, 0, none⟩ : Addr).add j) = some u := by
          intro j u hu
          have h1 := hown.cells (g := g) rfl j u hu
          rw [World.cell?_of_block (w := W) (by
            have hadd : ((⟨g, 0, none⟩ : Addr).add j).block = g := by unfold Addr.add; split <;> rfl
            rw [hadd]
            exact hbelow.block g hglt)]
          exact h1
        have hr := run_append_grow (P := P) (W.alloc (.cells #[.int .u8 p] 5)) t o.type 5 i (.int .u8 0) ht hi hz ⟨g, 0, none⟩ xs.length cap (encs (Value.int .u8) xs) (by simp [encs, hsz]) holds ⟨W.heap.size, 0, none⟩ 1 1 [.int .u8 p] (by simp [hsz]) hbx (by omega) (by omega) (growslice_fits (by omega) (by rw [hby]; omega))
        refine ⟨_, _, hr, .inr ?_⟩
        exact hfresh cap (by omega) _ rfl
  obtain ⟨v1, w1, hr, hh⟩ := key
  unfold Oper.wp execOp
  simp only [ho, resolve, invoke, builtin, Sem.run_bind, Sem.run_pure, Result.andThen_ok, List.map_toArray, List.map_cons, List.map_nil, hs, hx, hr]
  exact hK _ _ (h v1 w1 hh)
end
abbrev SP := Option Addr × Nat × Nat
/-- Ahead of row k's cell j: the rows before are filled, so is row k up to j. -/
def Ph1 (f : Nat → Nat) (ps : List SP) (base : Nat) (w : World) (k j : Nat) : Prop :=
  ∃ c : Nat → List Int, ∀ i p, ps[i]? = some p → U8.R 5 w base (fun b => f b = i) (slp p) (c i) ∧ (i < k → c i = fill i p.2.1) ∧ (i = k → (c i).take j = fill k j)
theorem ph1_len {f : Nat → Nat} {i : Nat} {base : Nat} {w : World} {p : SP} {xs : List Int} {ok : Nat → Prop} (h : U8.R 5 w base ok (slp p) xs) : xs.length = p.2.1 := by
  obtain ⟨A, c, he⟩ := Kd.R_slice h
  injection he with h1 h2 h3
  exact h2.symm
theorem ph1_next {f : Nat → Nat} {ps : List SP} {base : Nat} {w : World} {k j : Nat} {p : SP} (h : Ph1 f ps base w k j) (hp : ps[k]? = some p) (hj : p.2.1 ≤ j) : Ph1 f ps base w (k + 1) 0 := by
  obtain ⟨c, hc⟩ := h
  refine ⟨c, fun i q hq => ⟨(hc i q hq).1, fun hi => ?_, fun hi => by simp [fill]⟩⟩
  obtain ⟨h1, h2, h3⟩ := hc i q hq
  by_cases hik : i = k
  · subst hik
    rw [hp] at hq
    injection hq with hq
    subst hq
    have h4 := h3 rfl
    have hl := ph1_len (f := f) (i := i) h1
    rw [List.take_of_length_le (by omega)] at h4
    rw [h4] at hl ⊢
    rw [fill_len] at hl
    rw [hl]
  · exact h2 (by omega)
theorem ph1_store {f : Nat → Nat} {ps : List SP} {base : Nat} {w : World} {k j : Nat} {p : SP} (h : Ph1 f ps base w k j) (hp : ps[k]? = some p) (hj : j < p.2.1) :
    ∃ g, p.1 = some ⟨g, 0, none⟩ ∧ base ≤ g ∧ f g = k ∧ (∃ x, w.cell? ⟨g, j, none⟩ = some (.int .u8 x)) ∧ w.frozen? ⟨g, j, none⟩ = false ∧ Ph1 f ps base (w.setCell ⟨g, j, none⟩ (.int .u8 (bval k j))) k (j + 1) := by
  obtain ⟨c, hc⟩ := h
  obtain ⟨h1, h2, h3⟩ := hc k p hp
  have hl := ph1_len (f := f) (i := k) h1
  obtain ⟨A, n, cc⟩ := p
  simp only at hj hl
  obtain ⟨g, hg, hbg, _, _⟩ := R_form (A := A) (n := n) (c := cc) h1 (by omega)
  subst hg
  have hfg : f g = k := h1.1 g rfl
  have hcell := Kd.R_celln (0 : Int) (n := n) (cap := cc) h1 (j : Int) (by omega) (by omega)
  simp only [Int.toNat_natCast] at hcell
  refine ⟨g, rfl, hbg, hfg, ⟨_, hcell.1⟩, hcell.2, fun i => if i = k then (c k).set j (bval k j) else c i, fun i q hq => ?_⟩
  by_cases hik : i = k
  · subst hik
    rw [hp] at hq
    injection hq with hq
    subst hq
    simp only [if_pos]
    refine ⟨R_put' h1 j (bval i j), fun hh => absurd hh (Nat.lt_irrefl _), fun _ => ?_⟩
    rw [fill_succ, ← h3 rfl]
    rw [List.take_add_one, List.take_set_of_le (Nat.le_refl _), List.getElem?_set_self (by omega)]
    rfl
  · obtain ⟨k1, k2, k3⟩ := hc i q hq
    simp only [if_neg hik]
    exact ⟨Kd.R_far k1 (fun b hb hbg => by simp only at hbg; subst hbg; omega) _, k2, fun h => absurd h hik⟩
/-- The rows but the k-th, and the row of rows. -/
structure Oth (f : Nat → Nat) (ps us : List SP) (O : Option Addr) (base : Nat) (w : World) (k : Nat) : Prop where
  lo : ∀ i p, ps[i]? = some p → k < i → U8.R 5 w base (fun b => f b = i) (slp p) (fill i p.2.1)
  hi : ∀ i p u, ps[i]? = some p → us[i]? = some u → i < k → U8.R 5 w base (fun b => f b = i) (slp u) (fill i (p.2.1 + 12)) ∧ Kd.F U8 w (fun b => f b = i) p.1 p.2.1 (fill i p.2.1)
  ol : Kd.F SL w (fun b => f b = ps.length) O ps.length ps
theorem lt_of_at {α : Type} {l : List α} {i : Nat} {x : α} (h : l[i]? = some x) : i < l.length := (List.getElem?_eq_some_iff.1 h).1
theorem Oth.grown {f : Nat → Nat} {ps us : List SP} {O : Option Addr} {base : Nat} {w w1 : World} {k : Nat} (h : Oth f ps us O base w k) {row : Option Nat} (hg : w.grownBy w1 row)
    (hrow : ∀ b, row = some b → (f b = k ∧ k < ps.length) ∨ ps.length < f b) : Oth f ps us O base w1 k :=
  ⟨fun i p hp hi => Kd.R_grown (h.lo i p hp hi) hg (fun b hb he => by have := lt_of_at hp; rcases hrow b he.symm with ⟨h1, h2⟩ | h1 <;> omega),
   fun i p u hp hu hi => ⟨Kd.R_grown (h.hi i p u hp hu hi).1 hg (fun b hb he => by have := lt_of_at hp; rcases hrow b he.symm with ⟨h1, h2⟩ | h1 <;> omega), Kd.F_grown (h.hi i p u hp hu hi).2 hg (fun b hb he => by have := lt_of_at hp; rcases hrow b he.symm with ⟨h1, h2⟩ | h1 <;> omega)⟩,
   Kd.F_grown h.ol hg (fun b hb he => by rcases hrow b he.symm with ⟨h1, h2⟩ | h1 <;> omega)⟩
theorem Oth.below {f f' : Nat → Nat} {ps us : List SP} {O : Option Addr} {base : Nat} {w w1 : World} {k : Nat} (h : Oth f ps us O base w k) (hb : Below w.heap.size w w1) (hf : ∀ b, b < w.heap.size → f' b = f b) : Oth f' ps us O base w1 k :=
  ⟨fun i p hp hi => Kd.R_below (R_retag (h.lo i p hp hi) (fun b hb hl => by rw [hf b hl]; exact hb)) hb,
   fun i p u hp hu hi => ⟨Kd.R_below (R_retag (h.hi i p u hp hu hi).1 (fun b hb hl => by rw [hf b hl]; exact hb)) hb, Kd.F_below (F_retag (h.hi i p u hp hu hi).2 (fun b hb hl => by rw [hf b hl]; exact hb)) hb⟩,
   Kd.F_below (F_retag h.ol (fun b hb hl => by rw [hf b hl]; exact hb)) hb⟩
/-- Within the loop that appends to row k: q is the row now, m its length. -/
structure Ph2w (f : Nat → Nat) (ps us : List SP) (O : Option Addr) (G : Value) (base : Nat) (w : World) (k : Nat) (p q : SP) (m : Nat) : Prop where
  at_ : ps[k]? = some p
  oth : Oth f ps us O base w k
  gr : SL.R 22 w base (fun b => f b = ps.length + 1) G us
  cur : U8.R 5 w base (fun b => f b = k) (slp q) (fill k m)
  old : p.1 = q.1 ∨ Kd.F U8 w (fun b => f b = k ∧ some b ≠ (slp q).ownBlock) p.1 p.2.1 (fill k p.2.1)
  le : p.2.1 ≤ m
theorem Ph2w.below {f f' : Nat → Nat} {ps us : List SP} {O : Option Addr} {G : Value} {base : Nat} {w w1 : World} {k m : Nat} {p q : SP} (h : Ph2w f ps us O G base w k p q m) (hb : Below w.heap.size w w1) (hf : ∀ b, b < w.heap.size → f' b = f b) : Ph2w f' ps us O G base w1 k p q m :=
  ⟨h.at_, h.oth.below hb hf, Kd.R_below (R_retag h.gr (fun b hb hl => by rw [hf b hl]; exact hb)) hb, Kd.R_below (R_retag h.cur (fun b hb hl => by rw [hf b hl]; exact hb)) hb,
   h.old.imp id (fun h => Kd.F_below (F_retag h (fun b hb hl => by rw [hf b hl]; exact hb)) hb), h.le⟩
theorem Ph2w.oldF {f : Nat → Nat} {ps us : List SP} {O : Option Addr} {G : Value} {base : Nat} {w : World} {k m : Nat} {p q : SP} (h : Ph2w f ps us O G base w k p q m) : Kd.F U8 w (fun b => f b = k) p.1 p.2.1 (fill k p.2.1) := by
  rcases h.old with h1 | h1
  · have h2 := Kd.R_F (Kd.R_take (m := p.2.1) (A := q.1) (n := q.2.1) (c := q.2.2) h.cur (by rw [fill_len]; exact h.le))
    rw [fill_take k h.le] at h2
    rw [h1]
    exact h2
  · exact Kd.F_mono h1 (fun _ hk => hk.1)
theorem Ph2w.append {f : Nat → Nat} {ps us : List SP} {O : Option Addr} {G : Value} {base : Nat} {w w1 : World} {k m : Nat} {p q : SP} {v1 : Value} (h : Ph2w f ps us O G base w k p q m) (hbase : base ≤ w.heap.size) {b : Int} (hbv : b = bval k m)
    (hv : (v1.ownBlock = (slp q).ownBlock ∧ U8.R 5 w1 base (fun b => f b = k) v1 (fill k m ++ [b]) ∧ w.grownBy w1 (slp q).ownBlock) ∨ (U8.R 5 w1 w.heap.size (fun k => w.heap.size ≤ k) v1 (fill k m ++ [b]) ∧ Below w.heap.size w w1)) :
    ∃ f' q1, v1 = slp q1 ∧ Ph2w f' ps us O G base w1 k p q1 (m + 1) := by
  have hk : k < ps.length := lt_of_at h.at_
  have hle := h.le
  subst hbv
  rw [← fill_succ] at hv
  rcases hv with ⟨ho, hr, hg⟩ | ⟨hr, hb⟩
  · obtain ⟨A, c, rfl⟩ := Kd.R_slice hr
    have hrow : ∀ b, (slp q).ownBlock = some b → (f b = k ∧ k < ps.length) ∨ ps.length < f b := fun b hb => .inl ⟨h.cur.1 b hb, hk⟩
    refine ⟨f, (A, (fill k (m + 1)).length, c), rfl, h.at_, h.oth.grown hg hrow, Kd.R_grown h.gr hg (fun b hb he => by have hx : f b = k := h.cur.1 b he.symm; omega), hr, ?_, by omega⟩
    rcases h.old with h1 | h1
    · left
      obtain ⟨g, hA, _⟩ := R_form hr (by rw [fill_len]; omega)
      subst hA
      obtain ⟨qA, qn, qc⟩ := q
      simp only at h1 ⊢
      rw [h1]
      cases qA with
      | none => simp [slp, Value.ownBlock] at ho
      | some ad =>
        obtain ⟨g', hg'⟩ := Kd.R_head h.cur
        subst hg'
        simp only [slp, Value.ownBlock, Option.some.injEq] at ho
        rw [ho]
    · right
      have := Kd.F_grown h1 hg (fun b hb => hb.2)
      refine Kd.F_mono this (fun b hb => ⟨hb.1, ?_⟩)
      show some b ≠ (Value.slice A _ c).ownBlock
      rw [ho]
      exact hb.2
  · obtain ⟨A, c, rfl⟩ := Kd.R_slice hr
    have hF := h.oldF
    have hf : ∀ b, b < w.heap.size → (fun b => if w.heap.size ≤ b then k else f b) b = f b := fun b hb => by show (if w.heap.size ≤ b then k else f b) = f b; rw [if_neg (by omega)]
    have h2 := h.below hb hf
    refine ⟨fun b => if w.heap.size ≤ b then k else f b, (A, (fill k (m + 1)).length, c), rfl, h.at_, h2.oth, h2.gr, Kd.R_mono (Kd.R_lower hr hbase) (fun b hb => by show (if w.heap.size ≤ b then k else f b) = k; rw [if_pos hb]), .inr ?_, by omega⟩
    refine Kd.F_mono (Kd.F_below (Kd.F_bound hF) hb) (fun b hb => ⟨by show (if w.heap.size ≤ b then k else f b) = k; rw [if_neg (by omega)]; exact hb.1, fun he => ?_⟩)
    have := Kd.R_base hr b he.symm
    omega
/-- Ahead of row k's appends. -/
structure Ph2 (f : Nat → Nat) (ps us : List SP) (O : Option Addr) (G : Value) (base : Nat) (w : World) (k : Nat) : Prop where
  len : us.length = k
  lo : ∀ i p, ps[i]? = some p → k ≤ i → U8.R 5 w base (fun b => f b = i) (slp p) (fill i p.2.1)
  hi : ∀ i p u, ps[i]? = some p → us[i]? = some u → U8.R 5 w base (fun b => f b = i) (slp u) (fill i (p.2.1 + 12)) ∧ Kd.F U8 w (fun b => f b = i) p.1 p.2.1 (fill i p.2.1)
  ol : Kd.F SL w (fun b => f b = ps.length) O ps.length ps
  gr : SL.R 22 w base (fun b => f b = ps.length + 1) G us
theorem Ph2.start {f : Nat → Nat} {ps us : List SP} {O : Option Addr} {G : Value} {base : Nat} {w : World} {k : Nat} {p : SP} (h : Ph2 f ps us O G base w k) (hp : ps[k]? = some p) : Ph2w f ps us O G base w k p p p.2.1 :=
  ⟨hp, ⟨fun i q hq hi => h.lo i q hq (by omega), fun i q u hq hu hi => h.hi i q u hq hu, h.ol⟩, h.gr, h.lo k p hp (Nat.le_refl _), .inl rfl, Nat.le_refl _⟩
theorem Ph2.retag {f f' : Nat → Nat} {ps us : List SP} {O : Option Addr} {G : Value} {base : Nat} {w : World} {k : Nat} (h : Ph2 f ps us O G base w k) (hf : ∀ b, b < w.heap.size → f' b = f b) : Ph2 f' ps us O G base w k :=
  ⟨h.len, fun i p hp hi => R_retag (h.lo i p hp hi) (fun b hb hl => by rw [hf b hl]; exact hb), fun i p u hp hu => ⟨R_retag (h.hi i p u hp hu).1 (fun b hb hl => by rw [hf b hl]; exact hb), F_retag (h.hi i p u hp hu).2 (fun b hb hl => by rw [hf b hl]; exact hb)⟩,
   F_retag h.ol (fun b hb hl => by rw [hf b hl]; exact hb), R_retag h.gr (fun b hb hl => by rw [hf b hl]; exact hb)⟩
theorem Ph2.below {f : Nat → Nat} {ps us : List SP} {O : Option Addr} {G : Value} {base : Nat} {w w1 : World} {k : Nat} (h : Ph2 f ps us O G base w k) (hb : Below w.heap.size w w1) : Ph2 f ps us O G base w1 k :=
  ⟨h.len, fun i p hp hi => Kd.R_below (h.lo i p hp hi) hb, fun i p u hp hu => ⟨Kd.R_below (h.hi i p u hp hu).1 hb, Kd.F_below (h.hi i p u hp hu).2 hb⟩, Kd.F_below h.ol hb, Kd.R_below h.gr hb⟩
/-- The row is full: it is the k-th of the grown ones; G1 is what the append to them left. -/
theorem Ph2w.done {f : Nat → Nat} {ps us : List SP} {O : Option Addr} {G G1 : Value} {base : Nat} {w w1 : World} {k m : Nat} {p q : SP} (h : Ph2w f ps us O G base w k p q m) (hm : m = p.2.1 + 12) (hl : us.length = k) (hg : w.grownBy w1 G.ownBlock)
    (hG : SL.R 22 w1 base (fun b => f b = ps.length + 1) G1 (us ++ [q])) : Ph2 f ps (us ++ [q]) O G1 base w1 (k + 1) := by
  have hk : k < ps.length := lt_of_at h.at_
  have hrow : ∀ b, G.ownBlock = some b → (f b = k ∧ k < ps.length) ∨ ps.length < f b := fun b hb => .inr (by have hx : f b = ps.length + 1 := h.gr.1 b hb; omega)
  have ho := h.oth.grown hg hrow
  refine ⟨by simp [hl], fun i r hr hi => ho.lo i r hr (by omega), fun i r u hr hu => ?_, ho.ol, hG⟩
  by_cases hik : i = k
  · subst hik
    rw [h.at_] at hr
    injection hr with hr
    subst hr
    rw [List.getElem?_append_right (by omega), hl, Nat.sub_self] at hu
    simp only [List.getElem?_cons_zero, Option.some.injEq] at hu
    subst hu
    subst hm
    exact ⟨Kd.R_grown h.cur hg (fun b hb he => by have hx : f b = ps.length + 1 := h.gr.1 b he.symm; omega), Kd.F_grown h.oldF hg (fun b hb he => by have hx : f b = ps.length + 1 := h.gr.1 b he.symm; omega)⟩
  · have hlt : i < us.length := by
      have := lt_of_at hu
      simp at this
      omega
    rw [List.getElem?_append_left hlt] at hu
    exact ho.hi i r u hr hu (by omega)
theorem ph2_of_ph1 {f : Nat → Nat} {ps : List SP} {O : Option Addr} {G : Value} {base : Nat} {w w1 : World} (h : Ph1 f ps base w ps.length 0) (ho : Kd.F SL w (fun b => f b = ps.length) O ps.length ps) (hb : Below w.heap.size w w1) (hG : SL.R 22 w1 w.heap.size (fun _ => True) G []) (hbase : base ≤ w.heap.size) :
    ∃ f', Ph2 f' ps [] O G base w1 0 := by
  obtain ⟨c, hc⟩ := h
  obtain ⟨f', hf'⟩ : ∃ f' : Nat → Nat, f' = fun b => if w.heap.size ≤ b then ps.length + 1 else f b := ⟨_, rfl⟩
  have hf : ∀ b, b < w.heap.size → f' b = f b := fun b hb => by rw [hf']; simp only; rw [if_neg (by omega)]
  refine ⟨f', ⟨rfl, fun i p hp _ => ?_, fun i p u hp hu => by simp at hu, Kd.F_below (F_retag ho (fun b hb hl => by rw [hf b hl]; exact hb)) hb, ?_⟩⟩
  · obtain ⟨h1, h2, h3⟩ := hc i p hp
    have h4 := h2 (lt_of_at hp)
    rw [h4] at h1
    exact Kd.R_below (R_retag h1 (fun b hb hl => by rw [hf b hl]; exact hb)) hb
  · exact Kd.R_mono (Kd.R_lower (Kd.R_bound hG) hbase) (fun b hb => by rw [hf']; simp only; rw [if_pos hb.2.1])
end Go.Proofs.Ytbphmpncajfaiaa.K
/- Apart (function 25) answers true of rows of one's own that lie apart. -/
namespace Go.Proofs.Ytbphmpncajfaiaa.K
open Go.RowKit Go.Proofs.YtbphmpncajfaiaaW.PrintWords Go.Proofs.YtbphmpncajfaiaaW.PrintLast Go.Proofs.YtbphmpncajfaiaaW.PrintMore
set_option linter.unusedVariables false
set_option linter.unusedSimpArgs false
def sd : SP := (none, 0, 0)
theorem at_slp {w : World} {A : Option Addr} {n : Nat} {xs : List SP} (h : SL.C w A n xs) (i : Int) (h0 : 0 ≤ i) (h1 : i < n) : ∃ ad, A = some ad ∧ w.cell? (ad.add i.toNat) = some (slp (rdOf sd xs i)) :=
  ReadsOf.at_ (Kd.reads_of_C (enc := slp) (d := sd) (h1 := slp_one) h) i h0 h1
theorem at_row {w : World} {A : Option Addr} {ps : List SP} (h : SL.C w A ps.length ps) (i : Int) (h0 : 0 ≤ i) (h1 : i < ps.length) : ∃ ad p, A = some ad ∧ ps[i.toNat]? = some p ∧ w.cell? (ad.add i.toNat) = some (.slice p.1 p.2.1 p.2.2) := by
  obtain ⟨ad, hA, hc⟩ := at_slp h i h0 h1
  have hlt : i.toNat < ps.length := by omega
  refine ⟨ad, ps[i.toNat], hA, List.getElem?_eq_getElem hlt, ?_⟩
  rw [hc]
  unfold rdOf
  simp [hlt, slp]
theorem app_below {base : Nat} {w w1 : World} {v v1 : Value} {xs ys : List Int} {ok : Nat → Prop} (hbase : base ≤ w.heap.size) (hv : (v1.ownBlock = v.ownBlock ∧ U8.R 5 w1 base ok v1 xs ∧ w.grownBy w1 v.ownBlock) ∨ (U8.R 5 w1 w.heap.size (fun k => w.heap.size ≤ k) v1 xs ∧ Below w.heap.size w w1))
    (h : U8.R 5 w base ok v ys) : Below base w w1 := by
  rcases hv with ⟨ho, hr, hg⟩ | ⟨hr, hb⟩
  · exact Below.grown (Below.refl _ _) hg hbase (fun k hk => Kd.R_base h k hk)
  · exact Below.mono hb hbase
set_option maxHeartbeats 8000000 in
set_option maxRecDepth 100000 in
theorem apart_calls (f : Nat → Nat) (ps : List SP) (O : Option Addr) (co : Nat) (base : Nat) (w : World) (hbase : base ≤ w.heap.size) (hps : ps.length ≤ 1000) (hpl : ∀ p ∈ ps, p.2.1 ≤ 140737488355000)
    (hO : Kd.F SL w (fun b => f b = ps.length) O ps.length ps) (hR : Ph1 f ps base w 0 0) :
    Calls Try.prog 25 #[.slice O ps.length co] w fun e w' => e = .returned (.bool true) ∧ Below base w w' := by
  have HO := Aside0.mk hO
  have H1 := Aside0.mk hR
  have HB := Aside0.mk (Below.refl base w)
  have HPL := Aside0.mk hpl
  have HBASE := Aside0.mk hbase
  clear hO hR hpl hbase
  go_enter Try.func25, Try.ntmps25
  go_wp2
  go_loopg [15] (ps.length) (fun kq v15 w' => ∃ x : Int, v15 = .int .i64 x ∧ Aside0 (0 ≤ x ∧ x ≤ ps.length ∧ kq + x.toNat = ps.length) ∧ Aside0 (Ph1 f ps base w' x.toNat 0) ∧ Aside0 (Kd.F SL w' (fun b => f b = ps.length) O ps.length ps) ∧ Aside0 (Below base w w'))
  case atStart => exact ⟨0, rfl, ⟨by omega⟩, H1, HO, HB⟩
  case round =>
    clear H1 HO HB
    obtain ⟨x, rfl, HX, H1, HO, HB⟩ := hrel
    obtain ⟨hx0, hx1, hxk⟩ := HX.out
    by_cases hlt : x < (ps.length : Int)
    · obtain ⟨k1, rfl⟩ : ∃ k1, gk = k1 + 1 := ⟨gk - 1, by omega⟩
      have c1 : decide (x < (ps.length : Int)) = true := decide_eq_true hlt
      obtain ⟨ad, p, hO1, hp, hcell⟩ := at_row (Kd.F_now HO.out) x hx0 hlt
      have HP := Aside0.mk hp
      subst hO1
      obtain ⟨A, n, c⟩ := p
      have hn : n ≤ 140737488355000 := HPL.out _ (List.mem_of_getElem? hp)
      clear hp
      have q0 := eq_true hx0
      have q1 := eq_true hlt
      have HXK := Aside0.mk hxk
      clear hxk HX
      go_wp2
      go_loopg [22] n (fun kq v22 w' => ∃ j : Int, v22 = .int .i64 j ∧ Aside0 (0 ≤ j ∧ j ≤ n ∧ kq + j.toNat = n) ∧ Aside0 (Ph1 f ps base w' x.toNat j.toNat) ∧ Aside0 (Kd.F SL w' (fun b => f b = ps.length) (some ad) ps.length ps) ∧ Aside0 (Below base w w'))
      case atStart => exact ⟨0, rfl, ⟨by omega⟩, H1, HO, HB⟩
      case round =>
        clear H1 HO HB hcell
        obtain ⟨j, rfl, HX, H1, HO, HB⟩ := hrel
        obtain ⟨hj0, hj1, hjk⟩ := HX.out
        by_cases hlt2 : j < (n : Int)
        · have c2 : decide (j < (n : Int)) = true := decide_eq_true hlt2
          obtain ⟨g, hA, hbg, hfg, ⟨old, hcl⟩, hfz, hnext⟩ := ph1_store H1.out HP.out (show j.toNat < n by omega)
          simp only at hA
          subst hA
          have HN := Aside0.mk hnext
          have HG := Aside0.mk (And.intro hbg hfg)
          have HX2 := Aside0.mk hjk
          clear hnext hbg hfg hjk HX
          have r0 := eq_true hj0
          have r1 := eq_true hlt2
          go_wp2
          go_roundg (gk - 1)
          case measure => have := HX2.out; omega
          case rel =>
            have e1 : ((x.toNat : Nat) : Int) = x := Int.toNat_of_nonneg hx0
            have e2 : ((j.toNat : Nat) : Int) = j := Int.toNat_of_nonneg hj0
            have h3 := HN.out
            unfold bval at h3
            rw [e1, e2, show j.toNat + 1 = (j + 1).toNat by omega] at h3
            have hg := HG.out
            have hlt3 := lt_of_at HP.out
            refine ⟨j + 1, rfl, ⟨by have := HX2.out; omega⟩, ⟨h3⟩, ⟨Kd.F_far HO.out (fun b hb he => by simp only at he; subst he; omega) _⟩, ⟨HB.out.setCell hg.1 _⟩⟩
        · have c2 : decide (j < (n : Int)) = false := decide_eq_false hlt2
          have HX2 := Aside0.mk hjk
          have H3 := Aside0.mk (ph1_next H1.out HP.out (show n ≤ j.toNat by omega))
          clear hjk HX
          go_wp2
          go_roundg k1
          case measure => omega
          case rel => exact ⟨x + 1, rfl, ⟨by have := HXK.out; omega⟩, ⟨by rw [show (x + 1).toNat = x.toNat + 1 by omega]; exact H3.out⟩, HO, HB⟩
    · have c1 : decide (x < (ps.length : Int)) = false := decide_eq_false hlt
      obtain rfl : x = (ps.length : Int) := by omega
      clear hxk HX
      have HSZ := Aside0.mk (Nat.le_trans HBASE.out HB.out.size)
      go_upto_region 11 with (first | ((with_reducible refine gate_dst (N := 37) rfl ?_); refine Kd.R_lit (w0 := wr) SL wr.heap.size 22 ?hg (N := 37) ?hd (xs := ([] : List SP)) (inner := []) (ok := fun _ => True) (okp := fun _ => True) ?hr ?hp (fun _ hk => hk) trivial (Below.refl _ _) (Nat.le_refl _) (by simp) ?_; (case hd => rfl); (case hg => rfl); (case hr => first | (go_simp; done) | (go_simp; rfl)); (case hp => exact (Reps.none _ _)); intro v_g w_g ho_ hb_ hg_ hnew_; have H2 := Aside0.mk (ph2_of_ph1 H1.out HO.out hb_ ho_ HSZ.out); replace HB := Aside0.mk (HB.out.trans (Below.mono hb_ HSZ.out)); replace HSZ := Aside0.mk (Nat.le_trans HSZ.out hb_.size); clear ho_ hb_ hg_ hnew_))
      clear H1 HO
      go_wp2
      go_loopg [6, 40] (ps.length) (fun kq v6 v40 w' => ∃ (x : Int) (f : Nat → Nat) (us : List SP), v40 = .int .i64 x ∧ Aside0 (0 ≤ x ∧ x ≤ ps.length ∧ kq + x.toNat = ps.length) ∧ Aside0 (Ph2 f ps us O v6 base w' x.toNat) ∧ Aside0 (base ≤ w'.heap.size) ∧ Aside0 (Below base w w'))
      case atStart =>
        obtain ⟨f', h2⟩ := H2.out
        exact ⟨0, f', [], rfl, ⟨by omega⟩, ⟨h2⟩, HSZ, HB⟩
      case round =>
        clear H2 HB HSZ
        obtain ⟨x, f, us, rfl, HX, H2, HSZ, HB⟩ := hrel
        obtain ⟨hx0, hx1, hxk⟩ := HX.out
        by_cases hlt : x < (ps.length : Int)
        · obtain ⟨k1, rfl⟩ : ∃ k1, gk = k1 + 1 := ⟨gk - 1, by omega⟩
          have c1 : decide (x < (ps.length : Int)) = true := decide_eq_true hlt
          obtain ⟨ad, p, hO1, hp, hcell⟩ := at_row (Kd.F_now H2.out.ol) x hx0 hlt
          have H3 := Aside0.mk (H2.out.start hp)
          have HLEN := Aside0.mk H2.out.len
          have HUS := Aside0.mk (show (us.length + 1) * 24 ≤ 140737488355328 by have h5 := H2.out.len; omega)
          subst hO1
          obtain ⟨A, n, c⟩ := p
          have hn : n ≤ 140737488355000 := HPL.out _ (List.mem_of_getElem? hp)
          clear hp
          have q0 := eq_true hx0
          have q1 := eq_true hlt
          have HXK := Aside0.mk hxk
          clear hxk HX
          go_wp2
          go_loopg [8] 12 (fun kq v8 w' => ∃ (f : Nat → Nat) (B : Option Addr) (m cb : Nat), v8 = .slice B m cb ∧ Aside0 (m ≤ n + 12 ∧ kq + m = n + 12) ∧ Aside0 (Ph2w f ps us (some ad) u6 base w' x.toNat (A, n, c) (B, m, cb) m) ∧ Aside0 (base ≤ w'.heap.size) ∧ Aside0 (Below base w w'))
          case atStart => exact ⟨f, A, n, c, rfl, ⟨by omega⟩, H3, HSZ, HB⟩
          case round =>
            clear H2 H3 HB HSZ hcell
            obtain ⟨f, B, m, cb, rfl, HX, H3, HSZ, HB⟩ := hrel
            obtain ⟨hm1, hmk⟩ := HX.out
            by_cases hlt2 : (m : Int) < (n : Int) + 12
            · obtain ⟨k2, rfl⟩ : ∃ k2, gk = k2 + 1 := ⟨gk - 1, by omega⟩
              have c2 : decide ((m : Int) < (n : Int) + 12) = true := decide_eq_true hlt2
              have HX2 := Aside0.mk hmk
              clear hmk HX hm1
              go_wp2_with (first | ((with_reducible refine gate_builtin (b := .append) (xs := #[.tmp 52, .tmp 61]) rfl ?_); at_builtin; refine R_append_keep (w0 := w) base rfl (.tmp 52) (.tmp 61) 22 rfl Try.underlying22 (by kernel_rfl) (.slice B m cb) (fill x.toNat m) ((31 * x + 7 * (m : Int) + 1) % 256) (fun b => f b = x.toNat) rfl rfl ?aO HSZ.out ?aL ?_; (case aO => exact H3.out.cur); (case aL => rw [fill_len]; omega); intro v1 w1 hh; have H4 := Aside0.mk (H3.out.append HSZ.out (show (31 * x + 7 * (m : Int) + 1) % 256 = bval x.toNat m by unfold bval; rw [Int.toNat_of_nonneg hx0]) hh); have H5 := Aside0.mk (app_below HSZ.out hh H3.out.cur); clear hh))
              clear H3
              go_roundg k2
              case measure => omega
              case rel =>
                obtain ⟨f', q1, rfl, hP⟩ := H4.out
                obtain ⟨q1, m1, c1'⟩ := q1
                have hm1 : m1 = m + 1 := by
                  have := ph1_len (f := f') (i := x.toNat) hP.cur
                  rw [fill_len] at this
                  exact this.symm
                subst hm1
                exact ⟨f', q1, m + 1, c1', rfl, ⟨by have := HX2.out; omega⟩, ⟨hP⟩, ⟨Nat.le_trans HSZ.out H5.out.size⟩, ⟨HB.out.trans H5.out⟩⟩
            · have c2 : decide ((m : Int) < (n : Int) + 12) = false := decide_eq_false hlt2
              obtain rfl : m = n + 12 := by omega
              clear hmk HX
              go_wp2_with (first | ((with_reducible refine gate_builtin (b := .append) (xs := #[.tmp 63, .tmp 65]) rfl ?_); at_builtin; refine Kd.R_append SL (w0 := w) base rfl (.tmp 63) (.tmp 65) 37 22 (.slice none 0 0) 24 rfl Try.underlying37 (by kernel_rfl) rfl (by decide) (by omega) u6 us (B, n + 12, cb) [.slice B (n + 12) cb] (fun b => (if wr.heap.size ≤ b then ps.length + 1 else f b) = ps.length + 1) (fun _ => False) rfl rfl ?aP (fun _ hk => hk.elim) ?aF ?aO ?aB ?aS ?aL ?_; (case aP => exact rfl); (case aB => exact HB.out); (case aF => exact (fun k hk => by rw [if_pos hk])); (case aO => exact R_retag H3.out.gr (fun b hb hl => by rw [if_neg (by omega)]; exact hb)); (case aS => exact HSZ.out); (case aL => have := HUS.out; omega); intro v1 w1 ho hb hg hat; have H4 := Aside0.mk (Ph2w.done (H3.out.below (Below.refl _ _) (f' := fun b => if wr.heap.size ≤ b then ps.length + 1 else f b) (fun b hb => by show (if wr.heap.size ≤ b then ps.length + 1 else f b) = f b; rw [if_neg (by omega)])) rfl HLEN.out hg ho); replace HB := Aside0.mk hb; replace HSZ := Aside0.mk (Nat.le_trans HSZ.out hg.size); clear ho hb hg hat))
              go_roundg k1
              case measure => omega
              case rel => exact ⟨x + 1, _, _, rfl, ⟨by have := HXK.out; omega⟩, ⟨by rw [show (x + 1).toNat = x.toNat + 1 by omega]; exact H4.out⟩, HSZ, HB⟩
        · have c1 : decide (x < (ps.length : Int)) = false := decide_eq_false hlt
          obtain rfl : x = (ps.length : Int) := by omega
          clear hxk HX
          have h2 := H2.out
          rw [Int.toNat_natCast] at h2
          clear H2
          have hul := h2.len
          obtain ⟨G, cg, hG⟩ := Kd.R_slice h2.gr
          subst hG
          have H2 := Aside0.mk h2
          have HUL := Aside0.mk hul
          clear h2 hul
          go_wp2
          go_loopg [70] (us.length) (fun kq v70 w' => ∃ (x : Int), v70 = .int .i64 x ∧ Aside0 (0 ≤ x ∧ x ≤ us.length ∧ kq + x.toNat = us.length) ∧ Aside0 (Ph2 f ps us O (.slice G us.length cg) base w' ps.length) ∧ Aside0 (base ≤ w'.heap.size) ∧ Aside0 (Below base w w'))
          case atStart => exact ⟨0, rfl, ⟨by omega⟩, H2, HSZ, HB⟩
          case round =>
            clear H2 HB HSZ
            obtain ⟨x, rfl, HX, H2, HSZ, HB⟩ := hrel
            obtain ⟨hx0, hx1, hxk⟩ := HX.out
            by_cases hlt : x < (us.length : Int)
            · obtain ⟨k1, rfl⟩ : ∃ k1, gk = k1 + 1 := ⟨gk - 1, by omega⟩
              have c1 : decide (x < (us.length : Int)) = true := decide_eq_true hlt
              have hlp : x < (ps.length : Int) := by have := HUL.out; omega
              obtain ⟨ad, p, hO1, hp, hcell⟩ := at_row (Kd.F_now H2.out.ol) x hx0 hlp
              obtain ⟨adg, u, hO2, hu, hcellg⟩ := at_row (Kd.R_reads' H2.out.gr).2.2 x hx0 hlt
              subst hO1
              subst hO2
              have HR := Aside0.mk (H2.out.hi _ _ _ hp hu)
              obtain ⟨A, n, c⟩ := p
              have hn : n ≤ 140737488355000 := HPL.out _ (List.mem_of_getElem? hp)
              obtain ⟨U, m, cu⟩ := u
              have hm := ph1_len (f := f) (i := x.toNat) HR.out.1
              rw [fill_len] at hm
              simp only at hm
              subst hm
              have HP := Aside0.mk hp
              clear hp hu
              have q0 := eq_true hx0
              have q1 := eq_true hlt
              have HXK := Aside0.mk hxk
              clear hxk HX
              obtain ⟨w3, hw3⟩ : ∃ w3, w3 = wr := ⟨wr, rfl⟩
              subst hw3
              go_wp2
              go_loopg [77] (n + 12) (fun kq v77 w' => ∃ (j : Int), v77 = .int .i64 j ∧ Aside0 (0 ≤ j ∧ j ≤ n + 12 ∧ kq + j.toNat = n + 12) ∧ Aside0 (Below w3.heap.size w3 w'))
              case atStart => exact ⟨0, rfl, ⟨by omega⟩, ⟨Below.refl _ _⟩⟩
              case round =>
                obtain ⟨j, rfl, HX, HQ⟩ := hrel
                obtain ⟨hj0, hj1, hjk⟩ := HX.out
                by_cases hlt2 : j < (n : Int) + 12
                · obtain ⟨k2, rfl⟩ : ∃ k2, gk = k2 + 1 := ⟨gk - 1, by omega⟩
                  have c2 : decide (j < (n : Int) + 12) = true := decide_eq_true hlt2
                  have hv : bval ((x.toNat : Nat) : Int) j = (31 * x + 7 * j + 1) % 256 := by rw [Int.toNat_of_nonneg hx0]; rfl
                  obtain ⟨adu, hU, hcu⟩ := Kd.at_int (Kd.R_reads' HR.out.1).2.2 j hj0 (by rw [fill_len]; omega)
                  rw [fill_at _ j hj0 (by omega), hv] at hcu
                  subst hU
                  have hcu' := (HQ.out.cell (World.block_lt_of_cell? _ _ hcu)).trans hcu
                  have hco := (HQ.out.cell (World.block_lt_of_cell? _ _ hcell)).trans hcell
                  clear hcu hcell hv
                  have r0 := eq_true hj0
                  have r1 : (j < ((n + 12 : Nat) : Int)) = True := eq_true (by omega)
                  have r2 : (x < (ps.length : Int)) = True := eq_true hlp
                  have HX2 := Aside0.mk hjk
                  clear hjk HX
                  by_cases hin : j < (n : Int)
                  · have c3 : decide (j < (n : Int)) = true := decide_eq_true hin
                    have r3 := eq_true hin
                    obtain ⟨ada, hA, hca⟩ := Kd.at_int (Kd.F_now HR.out.2) j hj0 hin
                    rw [fill_at _ j hj0 hin, show bval ((x.toNat : Nat) : Int) j = (31 * x + 7 * j + 1) % 256 by rw [Int.toNat_of_nonneg hx0]; rfl] at hca
                    obtain rfl : A = some ada := hA
                    have hca' := (HQ.out.cell (World.block_lt_of_cell? _ _ hca)).trans hca
                    clear hca
                    go_upto_region 25 with fail
                    go_quiet (fail)
                    go_wp2
                    go_roundg k2
                    case measure => omega
                    case rel => exact ⟨j + 1, rfl, ⟨by have := HX2.out; omega⟩, ⟨by repeat (first | exact HQ.out | apply pw_below_drewN | apply below_drew1 | apply below_drew)⟩⟩
                  · have c3 : decide (j < (n : Int)) = false := decide_eq_false hin
                    go_upto_region 25 with fail
                    go_quiet (fail)
                    go_wp2
                    go_roundg k2
                    case measure => omega
                    case rel => exact ⟨j + 1, rfl, ⟨by have := HX2.out; omega⟩, ⟨by repeat (first | exact HQ.out | apply pw_below_drewN | apply below_drew1 | apply below_drew)⟩⟩
                · have c2 : decide (j < (n : Int) + 12) = false := decide_eq_false hlt2
                  clear hjk HX
                  go_wp2
                  go_roundg k1
                  case measure => omega
                  case rel => exact ⟨x + 1, rfl, ⟨by have := HXK.out; omega⟩, ⟨H2.out.below HQ.out⟩, ⟨Nat.le_trans HSZ.out HQ.out.size⟩, ⟨HB.out.trans (Below.mono HQ.out HSZ.out)⟩⟩
            · have c1 : decide (x < (us.length : Int)) = false := decide_eq_false hlt
              go_wp2
              go_ret
              exact ⟨rfl, HB.out⟩
end Go.Proofs.Ytbphmpncajfaiaa.K
/- WirePuts' own call: what bytes numbers and rows have. -/

namespace Go.Proofs.Ytbphmpncajfaiaa.K
open Go.RowKit Go.Proofs.Ytbphmpncajfaiaa.M Go.Proofs.Ytbphmpncajfaiaa.Py Go.Proofs.YtbphmpncajfaiaaW.PrintWords Go.Proofs.YtbphmpncajfaiaaW.PrintLast Go.Proofs.YtbphmpncajfaiaaW.PrintMore
set_option linter.unusedVariables false
set_option linter.unusedSimpArgs false
theorem take_two {A : Option Addr} {c base : Nat} {l : List Int} {w : World} {ok : Nat → Prop} (h : Kd.R (Kd.int .u8) 5 w base ok (.slice A (l.length + 2) c) (l ++ [165, 90])) : Kd.R (Kd.int .u8) 5 w base ok (.slice A l.length c) l := by
  have h1 := Kd.R_take h (m := l.length) (by simp)
  rw [List.take_left] at h1
  exact h1
theorem full_two {A : Option Addr} {c base : Nat} {l : List Int} {w : World} {ok : Nat → Prop} (h : Kd.R (Kd.int .u8) 5 w base ok (.slice A (l.length + 2) c) (l ++ [165, 90])) : Kd.C (Kd.int .u8) w A l.length l := (Kd.R_reads' (take_two h)).2.2
theorem room_two {A : Option Addr} {c base : Nat} {l : List Int} {w : World} {ok : Nat → Prop} (h : Kd.R (Kd.int .u8) 5 w base ok (.slice A (l.length + 2) c) (l ++ [165, 90])) : c ≤ 9223372036854775807 := by
  obtain ⟨_, inner, ho, _⟩ := h
  rcases ho.2 with ⟨he, h0⟩ | ⟨g, cap, cur, he, hb, hh, h1, h2, _⟩
  · injection he with _ h3 h4
    omega
  · injection he with _ _ h3
    unfold maxLen at h2
    omega
theorem num_take {A : Option Addr} {c base : Nat} {l y : List Int} {w : World} {ok : Nat → Prop} (hl : y.length = l.length + 1) (hy : y = l ++ [-77]) (h : Kd.R (Kd.int .i64) 3 w base ok (.slice A y.length c) y) : Kd.R (Kd.int .i64) 3 w base ok (.slice A l.length c) l := by
  have h1 := Kd.R_take h (m := l.length) (by omega)
  rw [hy, List.take_left] at h1
  exact h1
theorem cell_last {g c base : Nat} {l y : List Int} {w : World} {ok : Nat → Prop} (hy : y = l ++ [-77]) (hl : y.length = l.length + 1) (h : Kd.R (Kd.int .i64) 3 w base ok (.slice (some ⟨g, 0, none⟩) y.length c) y) : w.cell? ⟨g, l.length, none⟩ = some (.int .i64 (-77)) := by
  have h1 := Kd.R_cell 0 h (l.length : Int) (by omega) (by omega)
  simp only [rdOf, Int.toNat_natCast] at h1
  rw [h1.1, hy]
  simp
theorem iv_first {w0 w : World} {b : Nat} {v : Value} {xs : List Int} {ok : Nat → Prop} (hb : w0.heap.size ≤ b) (h : U8.R 5 w b ok v xs) : U8.R 5 w w0.heap.size (fun k => k < w.heap.size) v xs :=
  Kd.R_mono (Kd.R_lower (Kd.R_bound h) hb) (fun _ hk => hk.2.2.1)
theorem iv_next {w0 w : World} {b s : Nat} {v : Value} {xs : List Int} {ok : Nat → Prop} (hs : s ≤ b) (hb : w0.heap.size ≤ b) (h : U8.R 5 w b ok v xs) : U8.R 5 w w0.heap.size (fun k => s ≤ k ∧ k < w.heap.size) v xs :=
  Kd.R_mono (Kd.R_lower (Kd.R_bound h) hb) (fun _ hk => ⟨Nat.le_trans hs hk.2.1, hk.2.2.1⟩)
theorem ph1_four {base : Nat} {w : World} {p0 p1 p2 p3 : SP} {x0 x1 x2 x3 : List Int} {s1 s2 s3 s4 : Nat} (O : Option Addr) {ps : List SP} (hps : ps = [p0, p1, p2, p3]) (h2 : U8.R 5 w base (fun k => k < s1) (slp p2) x2) (h3 : U8.R 5 w base (fun k => s1 ≤ k ∧ k < s2) (slp p3) x3)
    (h0 : U8.R 5 w base (fun k => s2 ≤ k ∧ k < s3) (slp p0) x0) (h1 : U8.R 5 w base (fun k => s3 ≤ k ∧ k < s4) (slp p1) x1) (hO : Kd.F SL w (fun k => s4 ≤ k) O ps.length ps) (h12 : s1 ≤ s2) (h23 : s2 ≤ s3) (h34 : s3 ≤ s4) :
    ∃ f, Ph1 f ps base w 0 0 ∧ Kd.F SL w (fun b => f b = ps.length) O ps.length ps := by
  subst hps
  obtain ⟨f, hf⟩ : ∃ f : Nat → Nat, f = fun k => if k < s1 then 2 else if k < s2 then 3 else if k < s3 then 0 else if k < s4 then 1 else 4 := ⟨_, rfl⟩
  refine ⟨f, ⟨fun i => [x0, x1, x2, x3].getD i [], fun i p hp => ?_⟩, Kd.F_mono hO (fun k hk => ?_)⟩
  · refine ⟨?_, fun h => by omega, fun h => by simp [fill]⟩
    match i, hp with
    | 0, hp =>
      simp only [List.getElem?_cons_zero, Option.some.injEq] at hp
      subst hp
      exact Kd.R_mono h0 (fun k hk => by simp only [hf]; rw [if_neg (by omega), if_neg (by omega), if_pos (by omega)])
    | 1, hp =>
      simp only [List.getElem?_cons_zero, List.getElem?_cons_succ, Option.some.injEq] at hp
      subst hp
      exact Kd.R_mono h1 (fun k hk => by simp only [hf]; rw [if_neg (by omega), if_neg (by omega), if_neg (by omega), if_pos (by omega)])
    | 2, hp =>
      simp only [List.getElem?_cons_zero, List.getElem?_cons_succ, Option.some.injEq] at hp
      subst hp
      exact Kd.R_mono h2 (fun k hk => by simp only [hf]; rw [if_pos (by omega)])
    | 3, hp =>
      simp only [List.getElem?_cons_zero, List.getElem?_cons_succ, Option.some.injEq] at hp
      subst hp
      exact Kd.R_mono h3 (fun k hk => by simp only [hf]; rw [if_neg (by omega), if_pos (by omega)])
    | i + 4, hp => simp at hp
  · simp only [hf, List.length_cons, List.length_nil]
    rw [if_neg (by omega), if_neg (by omega), if_neg (by omega), if_neg (by omega)]
set_option maxHeartbeats 16000000 in
set_option maxRecDepth 100000 in
theorem puts_many (A N B : Option Addr) (ca cn cb : Nat) (la ln lb : List Int) (w : World) (hA : Kd.C (Kd.int .u8) w A la.length la) (hN : Kd.C (Kd.int .i64) w N ln.length ln) (hB : Kd.C (Kd.int .u8) w B lb.length lb) (hca : la.length ≤ ca) (hcn : ln.length ≤ cn) (hcb : lb.length ≤ cb) (hb : 5000 < ln.length) :
    Calls Try.prog 4 #[.slice A la.length ca, .slice N ln.length cn, .slice B lb.length cb] w fun e w' => e = .returned (.bool true) ∧ Below w.heap.size w w' := by
  have CA := Aside0.mk hA
  have CN := Aside0.mk hN
  have CB := Aside0.mk hB
  have LA := Aside0.mk hca
  have LN := Aside0.mk hcn
  have LB := Aside0.mk hcb
  have HB := Aside0.mk (Below.refl w.heap.size w)
  obtain ⟨y, hy⟩ : ∃ y, y = [la, lb] := ⟨_, rfl⟩
  have hbig : decide ((5000 : Int) < (ln.length : Int)) = true := decide_eq_true (by omega)
  clear hA hN hB hca hcn hcb hy hb
  go_enter Try.func4, Try.ntmps4
  go_wp2_with (first | ((with_reducible refine gate_callee (f := 16) rfl ?_); (with_reducible refine gate_dst (N := 13) rfl ?_); (try (refine gate_guard (by rfl) ?_; dsimp only)); refine goesL_ (some 13) rfl rfl Try.func16 (by kernel_rfl) rfl #[] rfl (by (try simp only [List.map_toArray, List.map_cons, List.map_nil]); first | done | rfl) ?_; (refine (alive_calls _).mono ?_); rintro e w_al ⟨rfl, hb_⟩; refine ⟨_, rfl, ?_⟩; have HB0_ := HB; replace CA := Aside0.mk (Kd.C_below CA.out hb_); replace CN := Aside0.mk (Kd.C_below CN.out hb_); replace CB := Aside0.mk (Kd.C_below CB.out hb_); replace HB := Aside0.mk (below_step HB.out hb_); clear hb_; clear HB0_))
  go_ret
  exact ⟨rfl, HB.out⟩
set_option maxHeartbeats 16000000 in
set_option maxRecDepth 100000 in
theorem puts_large (A N B : Option Addr) (ca cn cb : Nat) (la ln lb : List Int) (w : World) (hA : Kd.C (Kd.int .u8) w A la.length la) (hN : Kd.C (Kd.int .i64) w N ln.length ln) (hB : Kd.C (Kd.int .u8) w B lb.length lb) (hca : la.length ≤ ca) (hcn : ln.length ≤ cn) (hcb : lb.length ≤ cb) (K1 : Nat) (hb : ¬ 5000 < ln.length) (h1 : palimpsestlaw02_large.f K1 [la, lb] = some true) :
    Calls Try.prog 4 #[.slice A la.length ca, .slice N ln.length cn, .slice B lb.length cb] w fun e w' => e = .returned (.bool true) ∧ Below w.heap.size w w' := by
  have CA := Aside0.mk hA
  have CN := Aside0.mk hN
  have CB := Aside0.mk hB
  have LA := Aside0.mk hca
  have LN := Aside0.mk hcn
  have LB := Aside0.mk hcb
  have HB := Aside0.mk (Below.refl w.heap.size w)
  obtain ⟨y, hy⟩ : ∃ y, y = [la, lb] := ⟨_, rfl⟩
  have hbig : decide ((5000 : Int) < (ln.length : Int)) = false := decide_eq_false (by omega)
  have A1 := Aside0.mk (show palimpsestlaw02_large.f K1 y = some true by rw [hy]; exact h1)
  have Ny := Aside0.mk hy
  clear hA hN hB hca hcn hcb hy hb h1
  go_enter Try.func4, Try.ntmps4
  go_wp2_with (first | ((with_reducible refine gate_callee (f := 16) rfl ?_); (with_reducible refine gate_dst (N := 13) rfl ?_); (try (refine gate_guard (by rfl) ?_; dsimp only)); refine goesL_ (some 13) rfl rfl Try.func16 (by kernel_rfl) rfl #[] rfl (by (try simp only [List.map_toArray, List.map_cons, List.map_nil]); first | done | rfl) ?_; (refine (alive_calls _).mono ?_); rintro e w_al ⟨rfl, hb_⟩; refine ⟨_, rfl, ?_⟩; have HB0_ := HB; replace CA := Aside0.mk (Kd.C_below CA.out hb_); replace CN := Aside0.mk (Kd.C_below CN.out hb_); replace CB := Aside0.mk (Kd.C_below CB.out hb_); replace HB := Aside0.mk (below_step HB.out hb_); clear hb_; clear HB0_) | ((with_reducible refine gate_dst (N := 21) rfl ?_); (try (refine gate_guard (by rfl) ?_; dsimp only)); refine C_lit (Kd.slice 5 (Kd.int .u8)) 22 ?hg (N := 21) ?hd (xs := [la, lb]) (inner := [.slice A la.length ca, .slice B lb.length cb]) ?hr ?hp (by simp) ?_; (case hd => rfl); (case hg => rfl); (case hr => first | (go_simp; done) | (go_simp; rfl)); (case hp => exact (Reps.one ⟨_, _, rfl, LA.out, CA.out⟩ (Reps.one ⟨_, _, rfl, LB.out, CB.out⟩ (Reps.none _ _)))); intro w_y A_y c_y hc_ l_y hb_; rw [← Ny.out] at hc_ l_y ⊢; replace CA := Aside0.mk (Kd.C_below CA.out hb_); replace CN := Aside0.mk (Kd.C_below CN.out hb_); replace CB := Aside0.mk (Kd.C_below CB.out hb_); replace HB := Aside0.mk (below_step HB.out hb_); have C_y := Aside0.mk hc_; have L_y := Aside0.mk l_y; clear hc_ hb_ l_y) | ((with_reducible refine gate_callee (f := 17) rfl ?_); (with_reducible refine gate_dst (N := 22) rfl ?_); (try (refine gate_guard (by rfl) ?_; dsimp only)); refine goesL_ (some 22) rfl rfl Try.func17 (by kernel_rfl) rfl #[.slice A_y y.length c_y] rfl (by (try simp only [List.map_toArray, List.map_cons, List.map_nil]); first | done | rfl) ?_; (refine (palimpsestlaw02_large.calls K1 _ _ y true _ ?side1 ?side2 A1.out).mono ?_); (case side1 => exact C_y.out); (case side2 => exact L_y.out); rintro e w_lg ⟨rfl, ⟨⟨nd_, rfl⟩⟩⟩; refine ⟨_, rfl, ?_⟩; have HB0_ := HB; replace CA := Aside0.mk (Kd.C_below CA.out (pw_below_drewN (Below.refl _ _) nd_)); replace CN := Aside0.mk (Kd.C_below CN.out (pw_below_drewN (Below.refl _ _) nd_)); replace CB := Aside0.mk (Kd.C_below CB.out (pw_below_drewN (Below.refl _ _) nd_)); replace C_y := Aside0.mk (Kd.C_below C_y.out (pw_below_drewN (Below.refl _ _) nd_)); replace HB := Aside0.mk (below_step HB.out (pw_below_drewN (Below.refl _ _) nd_)); clear HB0_))
  go_ret
  exact ⟨rfl, HB.out⟩
set_option maxHeartbeats 16000000 in
set_option maxRecDepth 100000 in
theorem puts_main (A N B : Option Addr) (ca cn cb : Nat) (la ln lb : List Int) (w : World) (hA : Kd.C (Kd.int .u8) w A la.length la) (hN : Kd.C (Kd.int .i64) w N ln.length ln) (hB : Kd.C (Kd.int .u8) w B lb.length lb) (hca : la.length ≤ ca) (hcn : ln.length ≤ cn) (hcb : lb.length ≤ cb) (K1 K2 K3 K4 K5 K6 : Nat) (hb : ¬ 5000 < ln.length) (h1 : palimpsestlaw02_large.f K1 [la, lb] = some false) (hll : la.length + lb.length ≤ 131072) (pt pr rr : List Int) (h2 : wire_Put.f K2 la ln = some pt) (h3 : wire_PutRow.f K3 la lb = some pr) (h4 : palimpsestref02_Row.f K4 lb = some rr) (h5 : palimpsestref02_Put.f K5 la ln = some pt) (h6 : palimpsestnum_Ints.f K6 ln ln = some true) (hpr : pr = la ++ rr) (hlr : rr.length ≤ 1000000) (hlp : pt.length ≤ 1000000) :
    Calls Try.prog 4 #[.slice A la.length ca, .slice N ln.length cn, .slice B lb.length cb] w fun e w' => e = .returned (.bool true) ∧ Below w.heap.size w w' := by
  have CA := Aside0.mk hA
  have CN := Aside0.mk hN
  have CB := Aside0.mk hB
  have LA := Aside0.mk hca
  have LN := Aside0.mk hcn
  have LB := Aside0.mk hcb
  have HB := Aside0.mk (Below.refl w.heap.size w)
  obtain ⟨y, hy⟩ : ∃ y, y = [la, lb] := ⟨_, rfl⟩
  have hbig : decide ((5000 : Int) < (ln.length : Int)) = false := decide_eq_false (by omega)
  obtain ⟨mk, hmk⟩ : ∃ m : List Int, m = [-77] := ⟨_, rfl⟩
  obtain ⟨yn, hyn⟩ : ∃ y : List Int, y = ln ++ mk := ⟨_, rfl⟩
  have HYN := Aside0.mk (show yn.length = ln.length + 1 by rw [hyn, hmk]; simp)
  have A1 := Aside0.mk (show palimpsestlaw02_large.f K1 y = some false by rw [hy]; exact h1)
  have A2 := Aside0.mk h2
  have A3 := Aside0.mk h3
  have A4 := Aside0.mk h4
  have A5 := Aside0.mk h5
  have A6 := Aside0.mk h6
  have Ny := Aside0.mk hy
  have Nmk := Aside0.mk hmk
  have Nyn' := Aside0.mk (show yn = ln ++ [-77] by rw [hyn, hmk])
  have Nyn := Aside0.mk hyn
  have Npr := Aside0.mk hpr
  have LL := Aside0.mk hll
  have LN2 := Aside0.mk (show ln.length ≤ 5000 by omega)
  have LR := Aside0.mk hlr
  have LP := Aside0.mk hlp
  have LPR := Aside0.mk (show pr.length ≤ 2000000 by rw [hpr, List.length_append]; omega)
  have Lx : (ln.length : Int) ≤ 5000 := by omega
  obtain ⟨i3, hi3, _, _, _⟩ := info_parts info3
  clear hA hN hB hca hcn hcb hy hb h1 h2 h3 h4 h5 h6 hmk hyn hpr hll hlr hlp
  obtain ⟨ws, hws⟩ : ∃ ws, ws = w := ⟨w, rfl⟩
  subst hws
  go_enter Try.func4, Try.ntmps4
  go_upto_region 9 with (first | ((with_reducible refine gate_callee (f := 16) rfl ?_); (with_reducible refine gate_dst (N := 13) rfl ?_); (try (refine gate_guard (by rfl) ?_; dsimp only)); refine goesL_ (some 13) rfl rfl Try.func16 (by kernel_rfl) rfl #[] rfl (by (try simp only [List.map_toArray, List.map_cons, List.map_nil]); first | done | rfl) ?_; (refine (alive_calls _).mono ?_); rintro e w_al ⟨rfl, hb_⟩; refine ⟨_, rfl, ?_⟩; have HB0_ := HB; replace CA := Aside0.mk (Kd.C_below CA.out hb_); replace CN := Aside0.mk (Kd.C_below CN.out hb_); replace CB := Aside0.mk (Kd.C_below CB.out hb_); replace HB := Aside0.mk (below_step HB.out hb_); clear hb_; clear HB0_) | ((with_reducible refine gate_dst (N := 21) rfl ?_); (try (refine gate_guard (by rfl) ?_; dsimp only)); refine C_lit (Kd.slice 5 (Kd.int .u8)) 22 ?hg (N := 21) ?hd (xs := [la, lb]) (inner := [.slice A la.length ca, .slice B lb.length cb]) ?hr ?hp (by simp) ?_; (case hd => rfl); (case hg => rfl); (case hr => first | (go_simp; done) | (go_simp; rfl)); (case hp => exact (Reps.one ⟨_, _, rfl, LA.out, CA.out⟩ (Reps.one ⟨_, _, rfl, LB.out, CB.out⟩ (Reps.none _ _)))); intro w_y A_y c_y hc_ l_y hb_; rw [← Ny.out] at hc_ l_y ⊢; replace CA := Aside0.mk (Kd.C_below CA.out hb_); replace CN := Aside0.mk (Kd.C_below CN.out hb_); replace CB := Aside0.mk (Kd.C_below CB.out hb_); replace HB := Aside0.mk (below_step HB.out hb_); have C_y := Aside0.mk hc_; have L_y := Aside0.mk l_y; clear hc_ hb_ l_y) | ((with_reducible refine gate_callee (f := 17) rfl ?_); (with_reducible refine gate_dst (N := 22) rfl ?_); (try (refine gate_guard (by rfl) ?_; dsimp only)); refine goesL_ (some 22) rfl rfl Try.func17 (by kernel_rfl) rfl #[.slice A_y y.length c_y] rfl (by (try simp only [List.map_toArray, List.map_cons, List.map_nil]); first | done | rfl) ?_; (refine (palimpsestlaw02_large.calls K1 _ _ y false _ ?side1 ?side2 A1.out).mono ?_); (case side1 => exact C_y.out); (case side2 => exact L_y.out); rintro e w_lg ⟨rfl, ⟨⟨nd_, rfl⟩⟩⟩; refine ⟨_, rfl, ?_⟩; have HB0_ := HB; replace CA := Aside0.mk (Kd.C_below CA.out (pw_below_drewN (Below.refl _ _) nd_)); replace CN := Aside0.mk (Kd.C_below CN.out (pw_below_drewN (Below.refl _ _) nd_)); replace CB := Aside0.mk (Kd.C_below CB.out (pw_below_drewN (Below.refl _ _) nd_)); replace C_y := Aside0.mk (Kd.C_below C_y.out (pw_below_drewN (Below.refl _ _) nd_)); replace HB := Aside0.mk (below_step HB.out (pw_below_drewN (Below.refl _ _) nd_)); clear HB0_) | ((with_reducible refine gate_callee (f := 18) rfl ?_); (with_reducible refine gate_dst (N := 25) rfl ?_); (try (refine gate_guard (by rfl) ?_; dsimp only)); refine goesL_ (some 25) rfl rfl Try.func18 (by kernel_rfl) rfl #[.slice A la.length ca] rfl (by (try simp only [List.map_toArray, List.map_cons, List.map_nil]); first | done | rfl) ?_; (refine (copy_calls A ca la _ CA.out LA.out (by have := LL.out; omega)).mono ?_); rintro e w_x ⟨A_x, c_x, rfl, ho_, hcc_, hb_⟩; refine ⟨_, rfl, ?_⟩; have HB0_ := HB; replace CA := Aside0.mk (Kd.C_below CA.out hb_); replace CN := Aside0.mk (Kd.C_below CN.out hb_); replace CB := Aside0.mk (Kd.C_below CB.out hb_); replace HB := Aside0.mk (below_step HB.out hb_); have H_x := Aside0.mk (Kd.R_lower ho_ (below_size HB0_.out)); have L_x := Aside0.mk hcc_; have T_x := Aside0.mk (iv_first (below_size HB0_.out) (take_two ho_)); have Z_x := Aside0.mk (Nat.le_refl w_x.heap.size); have S_x := Aside0.mk (Below.size hb_); clear ho_ hcc_ hb_; clear HB0_) | ((with_reducible refine gate_callee (f := 18) rfl ?_); (with_reducible refine gate_dst (N := 27) rfl ?_); (try (refine gate_guard (by rfl) ?_; dsimp only)); refine goesL_ (some 27) rfl rfl Try.func18 (by kernel_rfl) rfl #[.slice B lb.length cb] rfl (by (try simp only [List.map_toArray, List.map_cons, List.map_nil]); first | done | rfl) ?_; (refine (copy_calls B cb lb _ CB.out LB.out (by have := LL.out; omega)).mono ?_); rintro e w_z ⟨A_z, c_z, rfl, ho_, hcc_, hb_⟩; refine ⟨_, rfl, ?_⟩; have HB0_ := HB; replace CA := Aside0.mk (Kd.C_below CA.out hb_); replace CN := Aside0.mk (Kd.C_below CN.out hb_); replace CB := Aside0.mk (Kd.C_below CB.out hb_); replace H_x := Aside0.mk (Kd.R_below H_x.out hb_); replace T_x := Aside0.mk (Kd.R_below T_x.out hb_); replace Z_x := Aside0.mk (Nat.le_trans Z_x.out (Below.size hb_)); replace HB := Aside0.mk (below_step HB.out hb_); have H_z := Aside0.mk (Kd.R_lower ho_ (below_size HB0_.out)); have L_z := Aside0.mk hcc_; have T_z := Aside0.mk (iv_next (Nat.le_refl _) (below_size HB0_.out) (take_two ho_)); have Z_z := Aside0.mk (Nat.le_refl w_z.heap.size); have S_z := Aside0.mk (Below.size hb_); clear ho_ hcc_ hb_; clear HB0_) | ((with_reducible refine gate_dst (N := 31) rfl ?_); refine R_make_cap (Kd.int .i64) (w0 := w_z) w_z.heap.size 3 rfl (N := 31) rfl 27 _ _ rfl 0 ((ln.length : Int) + 1) rfl rfl Try.underlying27 (.int .i64 0) 8 info3 rfl (by decide) (by omega) 0 (ok := fun _ => True) (okp := fun _ => True) rfl (fun _ hk => hk) trivial (by omega) (by omega) (by have := LN2.out; omega) (Below.refl _ _) (Nat.le_refl _) ?_; intro w_a ho_ hb_ hg_; have ho2_ : Kd.R (Kd.int .i64) 3 w_a w_z.heap.size (fun _ => True) (.slice (some ⟨w_z.heap.size, 0, none⟩) 0 (ln.length + 1)) [] := ho_; have HOWN := Aside0.mk ho2_; clear ho2_; have HOB := Aside0.mk hb_; clear ho_ hb_ hg_) | ((with_reducible refine gate_builtin (b := .append) (xs := #[.tmp 31, .tmp 32]) rfl ?_); at_builtin; (refine Kd.R_append_rows (Kd.int .i64) (w0 := w_z) w_z.heap.size rfl (.tmp 31) (.tmp 32) 27 3 (.int .i64 0) 8 rfl Try.underlying27 info3 rfl (by decide) (by omega) (.slice (some ⟨w_z.heap.size, 0, none⟩) 0 (ln.length + 1)) [] ln _ _ _ (fun _ => True) (fun _ => False) rfl rfl ?aO ?aR (fun _ _ h => h) (fun _ h => h.elim) ?aF ?aB ?aS ?aL ?_; (case aO => exact HOWN.out); (case aR => exact Kd.C_below CN.out HOB.out); (case aB => exact HOB.out); (case aF => exact (fun _ _ => trivial)); (case aS => exact below_size HOB.out); (case aL => have := LN2.out; simp; omega); intro v_b w_b ho_ hb_ hg_ hat_; replace ho_ : Kd.R (Kd.int .i64) 3 w_b w_z.heap.size (fun _ => True) v_b ln := ho_; replace HOWN := Aside0.mk ho_; replace HOB := Aside0.mk hb_; clear ho_ hb_ hg_ hat_)) | ((with_reducible refine gate_dst (N := 34) rfl ?_); refine C_lit (Kd.int .i64) 3 ?hg (N := 34) ?hd (xs := [-77]) (inner := [.int .i64 (-77)]) ?hr ?hp (by simp) ?_; (case hd => rfl); (case hg => rfl); (case hr => first | (go_simp; done) | (go_simp; rfl)); (case hp => exact Reps.one rfl (Reps.none _ _)); intro w_c A_c c_c hc_ l_c hb_; rw [← Nmk.out] at hc_ l_c ⊢; have CMK := Aside0.mk hc_; replace HOWN := Aside0.mk (Kd.R_below HOWN.out hb_); replace HOB := Aside0.mk (below_step HOB.out hb_); clear hc_ l_c hb_) | ((with_reducible refine gate_builtin (b := .append) (xs := #[.tmp 33, .tmp 34]) rfl ?_); at_builtin; (refine Kd.R_append_rows (Kd.int .i64) (w0 := w_z) w_z.heap.size rfl (.tmp 33) (.tmp 34) 27 3 (.int .i64 0) 8 rfl Try.underlying27 info3 rfl (by decide) (by omega) v_b ln mk _ _ _ (fun _ => True) (fun _ => False) rfl rfl ?aO ?aR (fun _ _ h => h) (fun _ h => h.elim) ?aF ?aB ?aS ?aL ?_; (case aO => exact HOWN.out); (case aR => exact CMK.out); (case aB => exact HOB.out); (case aF => exact (fun _ _ => trivial)); (case aS => exact below_size HOB.out); (case aL => have := LN2.out; rw [Nmk.out]; simp; omega); intro v_n w_n ho_ hb_ hg_ hat_; rw [← Nyn.out] at ho_; replace HOWN := Aside0.mk ho_; replace HOB := Aside0.mk hb_; clear ho_ hb_ hg_ hat_; obtain ⟨A_n, c_n, e_n⟩ := Kd.R_slice HOWN.out; subst e_n; obtain ⟨g_n, e_n, _, _, _⟩ := R_form HOWN.out (by have := HYN.out; omega); subst e_n; have HRM := Aside0.mk (Kd.R_reads' HOWN.out).2.1; have hcut := cut_to (P := Try.prog) 27 3 .i64 Try.underlying27 hi3 (some ⟨g_n, 0, none⟩) yn.length c_n (ln.length : Int) (by omega) (by have := HYN.out; omega) HRM.out; simp only [Int.toNat_natCast] at hcut; have HB0_ := HB; replace CA := Aside0.mk (Kd.C_below CA.out HOB.out); replace CN := Aside0.mk (Kd.C_below CN.out HOB.out); replace CB := Aside0.mk (Kd.C_below CB.out HOB.out); replace H_x := Aside0.mk (Kd.R_below H_x.out HOB.out); replace T_x := Aside0.mk (Kd.R_below T_x.out HOB.out); replace Z_x := Aside0.mk (Nat.le_trans Z_x.out (Below.size HOB.out)); replace H_z := Aside0.mk (Kd.R_below H_z.out HOB.out); replace T_z := Aside0.mk (Kd.R_below T_z.out HOB.out); replace Z_z := Aside0.mk (Nat.le_trans Z_z.out (Below.size HOB.out)); replace HB := Aside0.mk (below_step HB.out HOB.out); have H_n := Aside0.mk (Kd.R_lower HOWN.out (below_size HB0_.out)); have HN2 := Aside0.mk (num_take HYN.out Nyn'.out H_n.out); clear HOWN HOB HB0_ CMK)) | ((with_reducible refine gate_callee (f := 19) rfl ?_); (with_reducible refine gate_dst (N := 41) rfl ?_); (try (refine gate_guard (by rfl) ?_; dsimp only)); refine goesL_ (some 41) rfl rfl Try.func19 (by kernel_rfl) rfl #[.slice A_x la.length c_x, .slice (some ⟨g_n, 0, none⟩) ln.length c_n] rfl (by (try simp only [List.map_toArray, List.map_cons, List.map_nil]); first | done | rfl) ?_; (refine (wire_Put.calls K2 _ _ la _ _ ln pt _ ?side1 ?side2 ?side3 ?side4 A2.out).mono ?_); (case side1 => exact full_two H_x.out); (case side2 => exact (by have := L_x.out; omega)); (case side3 => exact (Kd.R_reads' HN2.out).2.2); (case side4 => exact (by have := HRM.out; have := HYN.out; omega)); rintro e w_pt ⟨v_pt, rfl, ho_, hb_⟩; refine ⟨_, rfl, ?_⟩; have HB0_ := HB; have ZZ := Z_z; replace CA := Aside0.mk (Kd.C_below CA.out hb_); replace CN := Aside0.mk (Kd.C_below CN.out hb_); replace CB := Aside0.mk (Kd.C_below CB.out hb_); replace H_x := Aside0.mk (Kd.R_below H_x.out hb_); replace T_x := Aside0.mk (Kd.R_below T_x.out hb_); replace Z_x := Aside0.mk (Nat.le_trans Z_x.out (Below.size hb_)); replace H_z := Aside0.mk (Kd.R_below H_z.out hb_); replace T_z := Aside0.mk (Kd.R_below T_z.out hb_); replace Z_z := Aside0.mk (Nat.le_trans Z_z.out (Below.size hb_)); replace H_n := Aside0.mk (Kd.R_below H_n.out hb_); replace HN2 := Aside0.mk (Kd.R_below HN2.out hb_); replace HB := Aside0.mk (below_step HB.out hb_); have H_pt := Aside0.mk (Kd.R_lower ho_ (below_size HB0_.out)); have T_pt := Aside0.mk (iv_next ZZ.out (below_size HB0_.out) ho_); have Z_pt := Aside0.mk (Nat.le_refl w_pt.heap.size); have S_pt := Aside0.mk (Nat.le_trans ZZ.out (Below.size hb_)); clear ho_ hb_; obtain ⟨A_pt, c_pt, e_pt⟩ := Kd.R_slice H_pt.out; subst e_pt; clear HB0_) | ((with_reducible refine gate_callee (f := 20) rfl ?_); (with_reducible refine gate_dst (N := 44) rfl ?_); (try (refine gate_guard (by rfl) ?_; dsimp only)); refine goesL_ (some 44) rfl rfl Try.func20 (by kernel_rfl) rfl #[.slice A_x la.length c_x, .slice A_z lb.length c_z] rfl (by (try simp only [List.map_toArray, List.map_cons, List.map_nil]); first | done | rfl) ?_; (refine (wire_PutRow.calls K3 _ _ la _ _ lb pr _ ?side1 ?side2 ?side3 ?side4 A3.out).mono ?_); (case side1 => exact full_two H_x.out); (case side2 => exact (by have := L_x.out; omega)); (case side3 => exact full_two H_z.out); (case side4 => exact (by have := L_z.out; omega)); rintro e w_pr ⟨v_pr, rfl, ho_, hb_⟩; refine ⟨_, rfl, ?_⟩; have HB0_ := HB; have ZZ2 := Z_pt; replace CA := Aside0.mk (Kd.C_below CA.out hb_); replace CN := Aside0.mk (Kd.C_below CN.out hb_); replace CB := Aside0.mk (Kd.C_below CB.out hb_); replace H_x := Aside0.mk (Kd.R_below H_x.out hb_); replace T_x := Aside0.mk (Kd.R_below T_x.out hb_); replace Z_x := Aside0.mk (Nat.le_trans Z_x.out (Below.size hb_)); replace H_z := Aside0.mk (Kd.R_below H_z.out hb_); replace T_z := Aside0.mk (Kd.R_below T_z.out hb_); replace Z_z := Aside0.mk (Nat.le_trans Z_z.out (Below.size hb_)); replace H_n := Aside0.mk (Kd.R_below H_n.out hb_); replace HN2 := Aside0.mk (Kd.R_below HN2.out hb_); replace H_pt := Aside0.mk (Kd.R_below H_pt.out hb_); replace T_pt := Aside0.mk (Kd.R_below T_pt.out hb_); replace Z_pt := Aside0.mk (Nat.le_trans Z_pt.out (Below.size hb_)); replace HB := Aside0.mk (below_step HB.out hb_); have H_pr := Aside0.mk (Kd.R_lower ho_ (below_size HB0_.out)); have T_pr := Aside0.mk (iv_next ZZ2.out (below_size HB0_.out) ho_); have Z_pr := Aside0.mk (Nat.le_refl w_pr.heap.size); have S_pr := Aside0.mk (Nat.le_trans ZZ2.out (Below.size hb_)); clear ho_ hb_; obtain ⟨A_pr, c_pr, e_pr⟩ := Kd.R_slice H_pr.out; subst e_pr; clear HB0_) | ((with_reducible refine gate_dst (N := 45) rfl ?_); (try (refine gate_guard (by rfl) ?_; dsimp only)); refine Kd.R_lit (w0 := w_pr) (Kd.int .u8) w_pr.heap.size 5 ?hg (N := 45) ?hd (xs := []) (inner := []) (ok := fun _ => True) (okp := fun _ => True) ?hr ?hp (fun _ hk => hk) trivial (Below.refl _ _) (Nat.le_refl _) (by simp) ?_; (case hd => rfl); (case hg => rfl); (case hr => first | (go_simp; done) | (go_simp; rfl)); (case hp => exact (Reps.none _ _)); intro v_o w_o ho_ hb_ hg_ hnew_; have HOWN := Aside0.mk ho_; have HOB := Aside0.mk hb_; clear ho_ hb_ hg_ hnew_) | ((with_reducible refine gate_builtin (b := .append) (xs := #[.tmp 45, .tmp 46]) rfl ?_); at_builtin; refine Kd.R_append_rows (Kd.int .u8) (w0 := w_pr) w_pr.heap.size rfl (.tmp 45) (.tmp 46) 22 5 (.int .u8 0) 1 rfl Try.underlying22 info5 rfl (by decide) (by omega) v_o [] la _ _ _ (fun _ => True) (fun _ => False) rfl rfl ?aO ?aR (fun _ _ h => h) (fun _ h => h.elim) ?aF ?aB ?aS ?aL ?_; (case aR => exact Kd.C_below CA.out HOB.out); (case aB => exact HOB.out); (case aF => exact (fun _ _ => trivial)); (case aO => exact HOWN.out); (case aS => exact below_size HOB.out); (case aL => have := LL.out; simp; omega); intro v_oa w_oa ho_ hb_ hg_ hat_; rw [List.nil_append] at ho_; replace HOWN := Aside0.mk ho_; replace HOB := Aside0.mk hb_; clear ho_ hb_ hg_ hat_) | ((with_reducible refine gate_callee (f := 21) rfl ?_); (with_reducible refine gate_dst (N := 49) rfl ?_); refine goesL_ (some 49) rfl rfl Try.func21 (by kernel_rfl) rfl #[.slice B lb.length cb] rfl (by (try simp only [List.map_toArray, List.map_cons, List.map_nil]); first | done | rfl) ?_; (refine (palimpsestref02_Row.calls K4 _ _ lb rr _ ?side1 ?side2 A4.out).mono ?_); (case side1 => exact Kd.C_below CB.out HOB.out); (case side2 => exact LB.out); rintro e w_rr ⟨v_rr, rfl, ho_, hb_⟩; refine ⟨_, rfl, ?_⟩; replace HOWN := Aside0.mk (Kd.R_below HOWN.out hb_); replace HOB := Aside0.mk (below_step HOB.out hb_); obtain ⟨A_rr, c_rr, e_rr⟩ := Kd.R_slice ho_; subst e_rr; have HRR := Aside0.mk (Kd.R_reads' ho_).2.2; clear ho_ hb_) | ((with_reducible refine gate_builtin (b := .append) (xs := #[.tmp 47, .tmp 49]) rfl ?_); at_builtin; refine Kd.R_append_rows (Kd.int .u8) (w0 := w_pr) w_pr.heap.size rfl (.tmp 47) (.tmp 49) 22 5 (.int .u8 0) 1 rfl Try.underlying22 info5 rfl (by decide) (by omega) v_oa la rr _ _ _ (fun _ => True) (fun _ => False) rfl rfl ?aO ?aR (fun _ _ h => h) (fun _ h => h.elim) ?aF ?aB ?aS ?aL ?_; (case aR => exact HRR.out); (case aB => exact HOB.out); (case aF => exact (fun _ _ => trivial)); (case aO => exact HOWN.out); (case aS => exact below_size HOB.out); (case aL => have := LL.out; have := LR.out; omega); intro v_ob w_ob ho_ hb_ hg_ hat_; rw [← Npr.out] at ho_; replace HOWN := Aside0.mk ho_; replace HOB := Aside0.mk hb_; clear ho_ hb_ hg_ hat_; have HB0_ := HB; replace CA := Aside0.mk (Kd.C_below CA.out HOB.out); replace CN := Aside0.mk (Kd.C_below CN.out HOB.out); replace CB := Aside0.mk (Kd.C_below CB.out HOB.out); replace H_x := Aside0.mk (Kd.R_below H_x.out HOB.out); replace T_x := Aside0.mk (Kd.R_below T_x.out HOB.out); replace Z_x := Aside0.mk (Nat.le_trans Z_x.out (Below.size HOB.out)); replace H_z := Aside0.mk (Kd.R_below H_z.out HOB.out); replace T_z := Aside0.mk (Kd.R_below T_z.out HOB.out); replace Z_z := Aside0.mk (Nat.le_trans Z_z.out (Below.size HOB.out)); replace H_n := Aside0.mk (Kd.R_below H_n.out HOB.out); replace HN2 := Aside0.mk (Kd.R_below HN2.out HOB.out); replace H_pt := Aside0.mk (Kd.R_below H_pt.out HOB.out); replace T_pt := Aside0.mk (Kd.R_below T_pt.out HOB.out); replace Z_pt := Aside0.mk (Nat.le_trans Z_pt.out (Below.size HOB.out)); replace H_pr := Aside0.mk (Kd.R_below H_pr.out HOB.out); replace T_pr := Aside0.mk (Kd.R_below T_pr.out HOB.out); replace Z_pr := Aside0.mk (Nat.le_trans Z_pr.out (Below.size HOB.out)); replace HB := Aside0.mk (below_step HB.out HOB.out); have H_wa := Aside0.mk (Kd.R_lower HOWN.out (below_size HB0_.out)); clear HOWN HOB HB0_; obtain ⟨A_wa, c_wa, e_wa⟩ := Kd.R_slice H_wa.out; subst e_wa))
  refine region_mem (n := 14) (by kernel_rfl) rfl (fun i => 51 + i) ?hN (fun i j _ _ h => by have h' : 51 + i = 51 + j := h; omega) (fun i hi => by show 51 + i < _; simp; omega) ?hdag (fun i u_ w => match i with | 0 => u_ = .slice A_pt pt.length c_pt | 1 => u_ = .string (strOfNums pt) | 2 => u_ = .slice A la.length ca | 3 => u_ = .slice N ln.length cn | 4 => ∃ A c, u_ = .slice A pt.length c ∧ pt.length ≤ c ∧ Kd.C (Kd.int .u8) w A pt.length pt | 5 => u_ = .string (strOfNums pt) | 6 => u_ = .bool false | 7 => u_ = .bool false | 8 => u_ = .slice A_pr pr.length c_pr | 9 => u_ = .string (strOfNums pr) | 10 => u_ = .slice A_wa pr.length c_wa | 11 => u_ = .string (strOfNums pr) | 12 => u_ = .bool false | 13 => u_ = .bool false | _ => True) ?hS ?step ?hend
  case hN =>
    intro i o ho
    have hi : i < 14 := (Array.getElem?_eq_some_iff.1 ho).1
    match i, hi, ho with
    | 0, _, ho => simp only [List.getElem?_toArray, List.getElem?_cons_zero, List.getElem?_cons_succ, Option.some.injEq] at ho; subst ho; rfl
    | 1, _, ho => simp only [List.getElem?_toArray, List.getElem?_cons_zero, List.getElem?_cons_succ, Option.some.injEq] at ho; subst ho; rfl
    | 2, _, ho => simp only [List.getElem?_toArray, List.getElem?_cons_zero, List.getElem?_cons_succ, Option.some.injEq] at ho; subst ho; rfl
    | 3, _, ho => simp only [List.getElem?_toArray, List.getElem?_cons_zero, List.getElem?_cons_succ, Option.some.injEq] at ho; subst ho; rfl
    | 4, _, ho => simp only [List.getElem?_toArray, List.getElem?_cons_zero, List.getElem?_cons_succ, Option.some.injEq] at ho; subst ho; rfl
    | 5, _, ho => simp only [List.getElem?_toArray, List.getElem?_cons_zero, List.getElem?_cons_succ, Option.some.injEq] at ho; subst ho; rfl
    | 6, _, ho => simp only [List.getElem?_toArray, List.getElem?_cons_zero, List.getElem?_cons_succ, Option.some.injEq] at ho; subst ho; rfl
    | 7, _, ho => simp only [List.getElem?_toArray, List.getElem?_cons_zero, List.getElem?_cons_succ, Option.some.injEq] at ho; subst ho; rfl
    | 8, _, ho => simp only [List.getElem?_toArray, List.getElem?_cons_zero, List.getElem?_cons_succ, Option.some.injEq] at ho; subst ho; rfl
    | 9, _, ho => simp only [List.getElem?_toArray, List.getElem?_cons_zero, List.getElem?_cons_succ, Option.some.injEq] at ho; subst ho; rfl
    | 10, _, ho => simp only [List.getElem?_toArray, List.getElem?_cons_zero, List.getElem?_cons_succ, Option.some.injEq] at ho; subst ho; rfl
    | 11, _, ho => simp only [List.getElem?_toArray, List.getElem?_cons_zero, List.getElem?_cons_succ, Option.some.injEq] at ho; subst ho; rfl
    | 12, _, ho => simp only [List.getElem?_toArray, List.getElem?_cons_zero, List.getElem?_cons_succ, Option.some.injEq] at ho; subst ho; rfl
    | 13, _, ho => simp only [List.getElem?_toArray, List.getElem?_cons_zero, List.getElem?_cons_succ, Option.some.injEq] at ho; subst ho; rfl
  case hdag =>
    intro i o ho
    have hi : i < 14 := (Array.getElem?_eq_some_iff.1 ho).1
    match i, hi, ho with
    | 0, _, ho => simp only [List.getElem?_toArray, List.getElem?_cons_zero, List.getElem?_cons_succ, Option.some.injEq] at ho; subst ho; decide
    | 1, _, ho => simp only [List.getElem?_toArray, List.getElem?_cons_zero, List.getElem?_cons_succ, Option.some.injEq] at ho; subst ho; decide
    | 2, _, ho => simp only [List.getElem?_toArray, List.getElem?_cons_zero, List.getElem?_cons_succ, Option.some.injEq] at ho; subst ho; decide
    | 3, _, ho => simp only [List.getElem?_toArray, List.getElem?_cons_zero, List.getElem?_cons_succ, Option.some.injEq] at ho; subst ho; decide
    | 4, _, ho => simp only [List.getElem?_toArray, List.getElem?_cons_zero, List.getElem?_cons_succ, Option.some.injEq] at ho; subst ho; decide
    | 5, _, ho => simp only [List.getElem?_toArray, List.getElem?_cons_zero, List.getElem?_cons_succ, Option.some.injEq] at ho; subst ho; decide
    | 6, _, ho => simp only [List.getElem?_toArray, List.getElem?_cons_zero, List.getElem?_cons_succ, Option.some.injEq] at ho; subst ho; decide
    | 7, _, ho => simp only [List.getElem?_toArray, List.getElem?_cons_zero, List.getElem?_cons_succ, Option.some.injEq] at ho; subst ho; decide
    | 8, _, ho => simp only [List.getElem?_toArray, List.getElem?_cons_zero, List.getElem?_cons_succ, Option.some.injEq] at ho; subst ho; decide
    | 9, _, ho => simp only [List.getElem?_toArray, List.getElem?_cons_zero, List.getElem?_cons_succ, Option.some.injEq] at ho; subst ho; decide
    | 10, _, ho => simp only [List.getElem?_toArray, List.getElem?_cons_zero, List.getElem?_cons_succ, Option.some.injEq] at ho; subst ho; decide
    | 11, _, ho => simp only [List.getElem?_toArray, List.getElem?_cons_zero, List.getElem?_cons_succ, Option.some.injEq] at ho; subst ho; decide
    | 12, _, ho => simp only [List.getElem?_toArray, List.getElem?_cons_zero, List.getElem?_cons_succ, Option.some.injEq] at ho; subst ho; decide
    | 13, _, ho => simp only [List.getElem?_toArray, List.getElem?_cons_zero, List.getElem?_cons_succ, Option.some.injEq] at ho; subst ho; decide
  case hS =>
    intro i u_ w w' h hb
    match i, h with
    | 0, h => exact h
    | 1, h => exact h
    | 2, h => exact h
    | 3, h => exact h
    | 4, ⟨A, c, h1, h2, h3⟩ => exact ⟨A, c, h1, h2, Kd.C_below h3 hb⟩
    | 5, h => exact h
    | 6, h => exact h
    | 7, h => exact h
    | 8, h => exact h
    | 9, h => exact h
    | 10, h => exact h
    | 11, h => exact h
    | 12, h => exact h
    | 13, h => exact h
    | _ + 14, _ => trivial
  case step =>
    intro i o a w ho hd hs hf hb hdep
    have hi : i < 14 := (Array.getElem?_eq_some_iff.1 ho).1
    match i, hi, ho with
    | 0, _, ho =>
      simp only [List.getElem?_toArray, List.getElem?_cons_zero, List.getElem?_cons_succ, Option.some.injEq] at ho
      subst ho
      have e10 : a.eval (.tmp 10) = .slice A_pt pt.length c_pt := ev_of ((hf 10 (fun j hj => by show 51 + j ≠ 10; omega)).trans rfl)
      exact reg_value (S := fun u_ w => u_ = .slice A_pt pt.length c_pt) (v := .slice A_pt pt.length c_pt) (w' := w) rfl (by simp only [execOp, e10]; go_simp) rfl (Below.refl _ _)
    | 1, _, ho =>
      simp only [List.getElem?_toArray, List.getElem?_cons_zero, List.getElem?_cons_succ, Option.some.injEq] at ho
      subst ho
      have t51 : a.tmps[51]? = some (.slice A_pt pt.length c_pt) := by obtain ⟨u_, h1, h2⟩ := hdep ⟨0, .data⟩ (by simp) rfl; rw [show u_ = .slice A_pt pt.length c_pt from h2] at h1; exact h1
      have e51 := ev_of t51
      have hcv := Kd.C_string (P := Try.prog) (A := A_pt) (c := c_pt) Try.underlying22 Try.underlying5 Try.underlying9 (Kd.C_below (Kd.R_reads' H_pt.out).2.2 hb)
      exact reg_value (S := fun u_ w => u_ = .string (strOfNums pt)) (v := .string (strOfNums pt)) (w' := w) rfl (by simp only [execOp, e51]; go_simp) rfl (Below.refl _ _)
    | 2, _, ho =>
      simp only [List.getElem?_toArray, List.getElem?_cons_zero, List.getElem?_cons_succ, Option.some.injEq] at ho
      subst ho
      have e0 : a.eval (.tmp 0) = .slice A la.length ca := ev_of ((hf 0 (fun j hj => by show 51 + j ≠ 0; omega)).trans rfl)
      exact reg_value (S := fun u_ w => u_ = .slice A la.length ca) (v := .slice A la.length ca) (w' := w) rfl (by simp only [execOp, e0]; go_simp) rfl (Below.refl _ _)
    | 3, _, ho =>
      simp only [List.getElem?_toArray, List.getElem?_cons_zero, List.getElem?_cons_succ, Option.some.injEq] at ho
      subst ho
      have e1 : a.eval (.tmp 1) = .slice N ln.length cn := ev_of ((hf 1 (fun j hj => by show 51 + j ≠ 1; omega)).trans rfl)
      exact reg_value (S := fun u_ w => u_ = .slice N ln.length cn) (v := .slice N ln.length cn) (w' := w) rfl (by simp only [execOp, e1]; go_simp) rfl (Below.refl _ _)
    | 4, _, ho =>
      simp only [List.getElem?_toArray, List.getElem?_cons_zero, List.getElem?_cons_succ, Option.some.injEq] at ho
      subst ho
      have t53 : a.tmps[53]? = some (.slice A la.length ca) := by obtain ⟨u_, h1, h2⟩ := hdep ⟨2, .data⟩ (by simp) rfl; rw [show u_ = .slice A la.length ca from h2] at h1; exact h1
      have e53 := ev_of t53
      have t54 : a.tmps[54]? = some (.slice N ln.length cn) := by obtain ⟨u_, h1, h2⟩ := hdep ⟨3, .data⟩ (by simp) rfl; rw [show u_ = .slice N ln.length cn from h2] at h1; exact h1
      have e54 := ev_of t54
      refine reg_call (S := fun u_ w => ∃ A c, u_ = .slice A pt.length c ∧ pt.length ≤ c ∧ Kd.C (Kd.int .u8) w A pt.length pt) rfl (reg_enters Try.func22 (by kernel_rfl) rfl #[.slice A la.length ca, .slice N ln.length cn] rfl (by simp only [List.map_toArray, List.map_cons, List.map_nil, e53, e54])) ?_
      refine (palimpsestref02_Put.calls K5 _ _ la _ _ ln pt _ (Kd.C_below CA.out hb) LA.out (Kd.C_below CN.out hb) LN.out A5.out).mono ?_
      rintro e w' ⟨v0, rfl, ho, hbw⟩
      obtain ⟨A, c, he, hl, hC⟩ := Kd.R_reads ho
      exact ⟨_, rfl, ⟨A, c, he, hl, hC⟩, hbw⟩
    | 5, _, ho =>
      simp only [List.getElem?_toArray, List.getElem?_cons_zero, List.getElem?_cons_succ, Option.some.injEq] at ho
      subst ho
      obtain ⟨v4, t55, A4, c4, q4, l4, C4⟩ : ∃ v, a.tmps[55]? = some v ∧ ∃ A c, v = .slice A pt.length c ∧ pt.length ≤ c ∧ Kd.C (Kd.int .u8) w A pt.length pt := hdep ⟨4, .data⟩ (by simp) rfl
      subst q4
      have e55 := ev_of t55
      have hcv := Kd.C_string (P := Try.prog) (A := A4) (c := c4) Try.underlying22 Try.underlying5 Try.underlying9 C4
      exact reg_value (S := fun u_ w => u_ = .string (strOfNums pt)) (v := .string (strOfNums pt)) (w' := w) rfl (by simp only [execOp, e55]; go_simp) rfl (Below.refl _ _)
    | 6, _, ho =>
      simp only [List.getElem?_toArray, List.getElem?_cons_zero, List.getElem?_cons_succ, Option.some.injEq] at ho
      subst ho
      have t52 : a.tmps[52]? = some (.string (strOfNums pt)) := by obtain ⟨u_, h1, h2⟩ := hdep ⟨1, .data⟩ (by simp) rfl; rw [show u_ = .string (strOfNums pt) from h2] at h1; exact h1
      have e52 := ev_of t52
      have t56 : a.tmps[56]? = some (.string (strOfNums pt)) := by obtain ⟨u_, h1, h2⟩ := hdep ⟨5, .data⟩ (by simp) rfl; rw [show u_ = .string (strOfNums pt) from h2] at h1; exact h1
      have e56 := ev_of t56
      exact reg_value (S := fun u_ w => u_ = .bool false) (v := .bool false) (w' := w) rfl (by simp only [execOp, e52, e56]; go_simp) rfl (Below.refl _ _)
    | 7, _, ho =>
      simp only [List.getElem?_toArray, List.getElem?_cons_zero, List.getElem?_cons_succ, Option.some.injEq] at ho
      subst ho
      have t57 : a.tmps[57]? = some (.bool false) := by obtain ⟨u_, h1, h2⟩ := hdep ⟨6, .data⟩ (by simp) rfl; rw [show u_ = .bool false from h2] at h1; exact h1
      have e57 := ev_of t57
      exact reg_value (S := fun u_ w => u_ = .bool false) (v := .bool false) (w' := w) rfl (by simp only [execOp, e57]; go_simp) rfl (Below.refl _ _)
    | 8, _, ho =>
      simp only [List.getElem?_toArray, List.getElem?_cons_zero, List.getElem?_cons_succ, Option.some.injEq] at ho
      subst ho
      have e11 : a.eval (.tmp 11) = .slice A_pr pr.length c_pr := ev_of ((hf 11 (fun j hj => by show 51 + j ≠ 11; omega)).trans rfl)
      have t58 : a.tmps[58]? = some (.bool false) := by obtain ⟨u_, h1, h2⟩ := hdep ⟨7, .guard⟩ (by simp) rfl; rw [show u_ = .bool false from h2] at h1; exact h1
      have e58 := ev_of t58
      exact reg_value (S := fun u_ w => u_ = .slice A_pr pr.length c_pr) (v := .slice A_pr pr.length c_pr) (w' := w) (wanted_of 7 false false true t58 rfl rfl rfl) (by simp only [execOp, e11, e58]; go_simp) rfl (Below.refl _ _)
    | 9, _, ho =>
      simp only [List.getElem?_toArray, List.getElem?_cons_zero, List.getElem?_cons_succ, Option.some.injEq] at ho
      subst ho
      have t59 : a.tmps[59]? = some (.slice A_pr pr.length c_pr) := by obtain ⟨u_, h1, h2⟩ := hdep ⟨8, .data⟩ (by simp) rfl; rw [show u_ = .slice A_pr pr.length c_pr from h2] at h1; exact h1
      have e59 := ev_of t59
      have t58 : a.tmps[58]? = some (.bool false) := by obtain ⟨u_, h1, h2⟩ := hdep ⟨7, .guard⟩ (by simp) rfl; rw [show u_ = .bool false from h2] at h1; exact h1
      have e58 := ev_of t58
      have hcv := Kd.C_string (P := Try.prog) (A := A_pr) (c := c_pr) Try.underlying22 Try.underlying5 Try.underlying9 (Kd.C_below (Kd.R_reads' H_pr.out).2.2 hb)
      exact reg_value (S := fun u_ w => u_ = .string (strOfNums pr)) (v := .string (strOfNums pr)) (w' := w) (wanted_of 7 false false true t58 rfl rfl rfl) (by simp only [execOp, e59, e58]; go_simp) rfl (Below.refl _ _)
    | 10, _, ho =>
      simp only [List.getElem?_toArray, List.getElem?_cons_zero, List.getElem?_cons_succ, Option.some.injEq] at ho
      subst ho
      have e12 : a.eval (.tmp 12) = .slice A_wa pr.length c_wa := ev_of ((hf 12 (fun j hj => by show 51 + j ≠ 12; omega)).trans rfl)
      have t58 : a.tmps[58]? = some (.bool false) := by obtain ⟨u_, h1, h2⟩ := hdep ⟨7, .guard⟩ (by simp) rfl; rw [show u_ = .bool false from h2] at h1; exact h1
      have e58 := ev_of t58
      exact reg_value (S := fun u_ w => u_ = .slice A_wa pr.length c_wa) (v := .slice A_wa pr.length c_wa) (w' := w) (wanted_of 7 false false true t58 rfl rfl rfl) (by simp only [execOp, e12, e58]; go_simp) rfl (Below.refl _ _)
    | 11, _, ho =>
      simp only [List.getElem?_toArray, List.getElem?_cons_zero, List.getElem?_cons_succ, Option.some.injEq] at ho
      subst ho
      have t61 : a.tmps[61]? = some (.slice A_wa pr.length c_wa) := by obtain ⟨u_, h1, h2⟩ := hdep ⟨10, .data⟩ (by simp) rfl; rw [show u_ = .slice A_wa pr.length c_wa from h2] at h1; exact h1
      have e61 := ev_of t61
      have t58 : a.tmps[58]? = some (.bool false) := by obtain ⟨u_, h1, h2⟩ := hdep ⟨7, .guard⟩ (by simp) rfl; rw [show u_ = .bool false from h2] at h1; exact h1
      have e58 := ev_of t58
      have hcv := Kd.C_string (P := Try.prog) (A := A_wa) (c := c_wa) Try.underlying22 Try.underlying5 Try.underlying9 (Kd.C_below (Kd.R_reads' H_wa.out).2.2 hb)
      exact reg_value (S := fun u_ w => u_ = .string (strOfNums pr)) (v := .string (strOfNums pr)) (w' := w) (wanted_of 7 false false true t58 rfl rfl rfl) (by simp only [execOp, e61, e58]; go_simp) rfl (Below.refl _ _)
    | 12, _, ho =>
      simp only [List.getElem?_toArray, List.getElem?_cons_zero, List.getElem?_cons_succ, Option.some.injEq] at ho
      subst ho
      have t60 : a.tmps[60]? = some (.string (strOfNums pr)) := by obtain ⟨u_, h1, h2⟩ := hdep ⟨9, .data⟩ (by simp) rfl; rw [show u_ = .string (strOfNums pr) from h2] at h1; exact h1
      have e60 := ev_of t60
      have t62 : a.tmps[62]? = some (.string (strOfNums pr)) := by obtain ⟨u_, h1, h2⟩ := hdep ⟨11, .data⟩ (by simp) rfl; rw [show u_ = .string (strOfNums pr) from h2] at h1; exact h1
      have e62 := ev_of t62
      have t58 : a.tmps[58]? = some (.bool false) := by obtain ⟨u_, h1, h2⟩ := hdep ⟨7, .guard⟩ (by simp) rfl; rw [show u_ = .bool false from h2] at h1; exact h1
      have e58 := ev_of t58
      exact reg_value (S := fun u_ w => u_ = .bool false) (v := .bool false) (w' := w) (wanted_of 7 false false true t58 rfl rfl rfl) (by simp only [execOp, e60, e62, e58]; go_simp) rfl (Below.refl _ _)
    | 13, _, ho =>
      simp only [List.getElem?_toArray, List.getElem?_cons_zero, List.getElem?_cons_succ, Option.some.injEq] at ho
      subst ho
      have t58 : a.tmps[58]? = some (.bool false) := by obtain ⟨u_, h1, h2⟩ := hdep ⟨7, .data⟩ (by simp) rfl; rw [show u_ = .bool false from h2] at h1; exact h1
      have e58 := ev_of t58
      have t63 : a.tmps[63]? = some (.bool false) := by obtain ⟨u_, h1, h2⟩ := hdep ⟨12, .data⟩ (by simp) rfl; rw [show u_ = .bool false from h2] at h1; exact h1
      have e63 := ev_of t63
      exact reg_value (S := fun u_ w => u_ = .bool false) (v := .bool false) (w' := w) rfl (by simp only [execOp, e58, e63]; go_simp) rfl (Below.refl _ _)
  case hend =>
    intro vs w hb hall
    have s0 : vs 0 = .slice A_pt pt.length c_pt := hall 0 (by omega)
    have s1 : vs 1 = .string (strOfNums pt) := hall 1 (by omega)
    have s2 : vs 2 = .slice A la.length ca := hall 2 (by omega)
    have s3 : vs 3 = .slice N ln.length cn := hall 3 (by omega)
    obtain ⟨A4, c4, s4, l4, C4⟩ : ∃ A c, vs 4 = .slice A pt.length c ∧ pt.length ≤ c ∧ Kd.C (Kd.int .u8) w A pt.length pt := hall 4 (by omega)
    have s5 : vs 5 = .string (strOfNums pt) := hall 5 (by omega)
    have s6 : vs 6 = .bool false := hall 6 (by omega)
    have s7 : vs 7 = .bool false := hall 7 (by omega)
    have s8 : vs 8 = .slice A_pr pr.length c_pr := hall 8 (by omega)
    have s9 : vs 9 = .string (strOfNums pr) := hall 9 (by omega)
    have s10 : vs 10 = .slice A_wa pr.length c_wa := hall 10 (by omega)
    have s11 : vs 11 = .string (strOfNums pr) := hall 11 (by omega)
    have s12 : vs 12 = .bool false := hall 12 (by omega)
    have s13 : vs 13 = .bool false := hall 13 (by omega)
    simp only [fillN, Act.put, s0, s1, s2, s3, s4, s5, s6, s7, s8, s9, s10, s11, s12, s13, List.setIfInBounds_toArray, List.set_cons_zero, List.set_cons_succ, Nat.reduceAdd]
    replace CA := Aside0.mk (Kd.C_below CA.out hb); replace CN := Aside0.mk (Kd.C_below CN.out hb); replace CB := Aside0.mk (Kd.C_below CB.out hb); replace H_x := Aside0.mk (Kd.R_below H_x.out hb); replace T_x := Aside0.mk (Kd.R_below T_x.out hb); replace Z_x := Aside0.mk (Nat.le_trans Z_x.out (Below.size hb)); replace H_z := Aside0.mk (Kd.R_below H_z.out hb); replace T_z := Aside0.mk (Kd.R_below T_z.out hb); replace Z_z := Aside0.mk (Nat.le_trans Z_z.out (Below.size hb)); replace H_n := Aside0.mk (Kd.R_below H_n.out hb); replace HN2 := Aside0.mk (Kd.R_below HN2.out hb); replace H_pt := Aside0.mk (Kd.R_below H_pt.out hb); replace T_pt := Aside0.mk (Kd.R_below T_pt.out hb); replace Z_pt := Aside0.mk (Nat.le_trans Z_pt.out (Below.size hb)); replace H_pr := Aside0.mk (Kd.R_below H_pr.out hb); replace T_pr := Aside0.mk (Kd.R_below T_pr.out hb); replace Z_pr := Aside0.mk (Nat.le_trans Z_pr.out (Below.size hb)); replace HB := Aside0.mk (below_step HB.out hb); clear hall hb
    obtain ⟨y4, hy4⟩ : ∃ y : List SP, y = [(A_pt, pt.length, c_pt), (A_pr, pr.length, c_pr), (A_x, la.length, c_x), (A_z, lb.length, c_z)] := ⟨_, rfl⟩
    have Ny4 := Aside0.mk hy4
    clear hy4 hcut
    have hcut2 := cut_cap (P := Try.prog) 27 3 .i64 Try.underlying27 hi3 (some ⟨g_n, 0, none⟩) ln.length c_n ((ln.length : Int) + 1) (by omega) (by have := HRM.out; have := HYN.out; omega)
    rw [show ((ln.length : Int) + 1).toNat = ln.length + 1 by omega] at hcut2
    have q1 : ln.length < ln.length + 1 := by omega
    have q3 : ((ln.length : Int)) < (ln.length : Int) + 1 := by omega
    have q5 : 0 ≤ (ln.length : Int) := by omega
    go_wp2_with (first | ((with_reducible refine gate_callee (f := 23) rfl ?_); (with_reducible refine gate_dst (N := 67) rfl ?_); (try (refine gate_guard (by rfl) ?_; dsimp only)); refine goesL_ (some 67) rfl rfl Try.func23 (by kernel_rfl) rfl #[.slice A_x la.length c_x, .slice A la.length ca] rfl (by (try simp only [List.map_toArray, List.map_cons, List.map_nil]); first | done | rfl) ?_; (refine (kept_calls A_x A c_x ca _ la _ H_x.out L_x.out CA.out LA.out (by have := LL.out; omega) (room_two H_x.out)).mono ?_); rintro e w_k1 ⟨rfl, hb_⟩; refine ⟨_, rfl, ?_⟩; have HB0_ := HB; replace CA := Aside0.mk (Kd.C_below CA.out hb_); replace CN := Aside0.mk (Kd.C_below CN.out hb_); replace CB := Aside0.mk (Kd.C_below CB.out hb_); replace H_x := Aside0.mk (Kd.R_below H_x.out hb_); replace T_x := Aside0.mk (Kd.R_below T_x.out hb_); replace Z_x := Aside0.mk (Nat.le_trans Z_x.out (Below.size hb_)); replace H_z := Aside0.mk (Kd.R_below H_z.out hb_); replace T_z := Aside0.mk (Kd.R_below T_z.out hb_); replace Z_z := Aside0.mk (Nat.le_trans Z_z.out (Below.size hb_)); replace H_n := Aside0.mk (Kd.R_below H_n.out hb_); replace HN2 := Aside0.mk (Kd.R_below HN2.out hb_); replace H_pt := Aside0.mk (Kd.R_below H_pt.out hb_); replace T_pt := Aside0.mk (Kd.R_below T_pt.out hb_); replace Z_pt := Aside0.mk (Nat.le_trans Z_pt.out (Below.size hb_)); replace H_pr := Aside0.mk (Kd.R_below H_pr.out hb_); replace T_pr := Aside0.mk (Kd.R_below T_pr.out hb_); replace Z_pr := Aside0.mk (Nat.le_trans Z_pr.out (Below.size hb_)); replace HB := Aside0.mk (below_step HB.out hb_); clear hb_; clear HB0_) | ((with_reducible refine gate_callee (f := 23) rfl ?_); (with_reducible refine gate_dst (N := 71) rfl ?_); (try (refine gate_guard (by rfl) ?_; dsimp only)); refine goesL_ (some 71) rfl rfl Try.func23 (by kernel_rfl) rfl #[.slice A_z lb.length c_z, .slice B lb.length cb] rfl (by (try simp only [List.map_toArray, List.map_cons, List.map_nil]); first | done | rfl) ?_; (refine (kept_calls A_z B c_z cb _ lb _ H_z.out L_z.out CB.out LB.out (by have := LL.out; omega) (room_two H_z.out)).mono ?_); rintro e w_k2 ⟨rfl, hb_⟩; refine ⟨_, rfl, ?_⟩; have HB0_ := HB; replace CA := Aside0.mk (Kd.C_below CA.out hb_); replace CN := Aside0.mk (Kd.C_below CN.out hb_); replace CB := Aside0.mk (Kd.C_below CB.out hb_); replace H_x := Aside0.mk (Kd.R_below H_x.out hb_); replace T_x := Aside0.mk (Kd.R_below T_x.out hb_); replace Z_x := Aside0.mk (Nat.le_trans Z_x.out (Below.size hb_)); replace H_z := Aside0.mk (Kd.R_below H_z.out hb_); replace T_z := Aside0.mk (Kd.R_below T_z.out hb_); replace Z_z := Aside0.mk (Nat.le_trans Z_z.out (Below.size hb_)); replace H_n := Aside0.mk (Kd.R_below H_n.out hb_); replace HN2 := Aside0.mk (Kd.R_below HN2.out hb_); replace H_pt := Aside0.mk (Kd.R_below H_pt.out hb_); replace T_pt := Aside0.mk (Kd.R_below T_pt.out hb_); replace Z_pt := Aside0.mk (Nat.le_trans Z_pt.out (Below.size hb_)); replace H_pr := Aside0.mk (Kd.R_below H_pr.out hb_); replace T_pr := Aside0.mk (Kd.R_below T_pr.out hb_); replace Z_pr := Aside0.mk (Nat.le_trans Z_pr.out (Below.size hb_)); replace HB := Aside0.mk (below_step HB.out hb_); clear hb_; clear HB0_) | ((with_reducible refine gate_callee (f := 24) rfl ?_); (with_reducible refine gate_dst (N := 76) rfl ?_); (try (refine gate_guard (by rfl) ?_; dsimp only)); refine goesL_ (some 76) rfl rfl Try.func24 (by kernel_rfl) rfl #[.slice (some ⟨g_n, 0, none⟩) ln.length c_n, .slice N ln.length cn] rfl (by (try simp only [List.map_toArray, List.map_cons, List.map_nil]); first | done | rfl) ?_; (refine (palimpsestnum_Ints.calls K6 _ _ ln _ _ ln true _ ?side1 ?side2 ?side3 ?side4 A6.out).mono ?_); (case side1 => exact (Kd.R_reads' HN2.out).2.2); (case side2 => exact (by have := HRM.out; have := HYN.out; omega)); (case side3 => exact CN.out); (case side4 => exact LN.out); rintro e w_in ⟨rfl, ⟨⟨ni_, rfl⟩⟩⟩; refine ⟨_, rfl, ?_⟩; have HB0_ := HB; replace CA := Aside0.mk (Kd.C_below CA.out (pw_below_drewN (Below.refl _ _) ni_)); replace CN := Aside0.mk (Kd.C_below CN.out (pw_below_drewN (Below.refl _ _) ni_)); replace CB := Aside0.mk (Kd.C_below CB.out (pw_below_drewN (Below.refl _ _) ni_)); replace H_x := Aside0.mk (Kd.R_below H_x.out (pw_below_drewN (Below.refl _ _) ni_)); replace T_x := Aside0.mk (Kd.R_below T_x.out (pw_below_drewN (Below.refl _ _) ni_)); replace Z_x := Aside0.mk (Nat.le_trans Z_x.out (Below.size (B := 0) (pw_below_drewN (Below.refl _ _) ni_))); replace H_z := Aside0.mk (Kd.R_below H_z.out (pw_below_drewN (Below.refl _ _) ni_)); replace T_z := Aside0.mk (Kd.R_below T_z.out (pw_below_drewN (Below.refl _ _) ni_)); replace Z_z := Aside0.mk (Nat.le_trans Z_z.out (Below.size (B := 0) (pw_below_drewN (Below.refl _ _) ni_))); replace H_n := Aside0.mk (Kd.R_below H_n.out (pw_below_drewN (Below.refl _ _) ni_)); replace HN2 := Aside0.mk (Kd.R_below HN2.out (pw_below_drewN (Below.refl _ _) ni_)); replace H_pt := Aside0.mk (Kd.R_below H_pt.out (pw_below_drewN (Below.refl _ _) ni_)); replace T_pt := Aside0.mk (Kd.R_below T_pt.out (pw_below_drewN (Below.refl _ _) ni_)); replace Z_pt := Aside0.mk (Nat.le_trans Z_pt.out (Below.size (B := 0) (pw_below_drewN (Below.refl _ _) ni_))); replace H_pr := Aside0.mk (Kd.R_below H_pr.out (pw_below_drewN (Below.refl _ _) ni_)); replace T_pr := Aside0.mk (Kd.R_below T_pr.out (pw_below_drewN (Below.refl _ _) ni_)); replace Z_pr := Aside0.mk (Nat.le_trans Z_pr.out (Below.size (B := 0) (pw_below_drewN (Below.refl _ _) ni_))); replace HB := Aside0.mk (below_step HB.out (pw_below_drewN (Below.refl _ _) ni_)); have hcl := cell_last Nyn'.out HYN.out H_n.out; clear HB0_) | ((with_reducible refine gate_dst (N := 95) rfl ?_); (try (refine gate_guard (by rfl) ?_; dsimp only)); refine Kd.R_lit (w0 := (w_k2.drewN ni_)) (SL) (w_k2.drewN ni_).heap.size 22 ?hg (N := 95) ?hd (xs := [(A_pt, pt.length, c_pt), (A_pr, pr.length, c_pr), (A_x, la.length, c_x), (A_z, lb.length, c_z)]) (inner := [.slice A_pt pt.length c_pt, .slice A_pr pr.length c_pr, .slice A_x la.length c_x, .slice A_z lb.length c_z]) (ok := fun _ => True) (okp := fun _ => True) ?hr ?hp (fun _ hk => hk) trivial (Below.refl _ _) (Nat.le_refl _) (by simp) ?_; (case hd => rfl); (case hg => rfl); (case hr => first | (go_simp; done) | (go_simp; rfl)); (case hp => exact (Reps.one (show Kd.M SL _ _ _ (A_pt, pt.length, c_pt) [.slice A_pt pt.length c_pt] from rfl) (Reps.one (show Kd.M SL _ _ _ (A_pr, pr.length, c_pr) [.slice A_pr pr.length c_pr] from rfl) (Reps.one (show Kd.M SL _ _ _ (A_x, la.length, c_x) [.slice A_x la.length c_x] from rfl) (Reps.one (show Kd.M SL _ _ _ (A_z, lb.length, c_z) [.slice A_z lb.length c_z] from rfl) (Reps.none _ _)))))); have HB0_ := HB; have ZL := Z_pr; intro v_l4 w_l4 ho_ hb_ hg_ hnew_; rw [← Ny4.out] at ho_; replace CA := Aside0.mk (Kd.C_below CA.out hb_); replace CN := Aside0.mk (Kd.C_below CN.out hb_); replace CB := Aside0.mk (Kd.C_below CB.out hb_); replace H_x := Aside0.mk (Kd.R_below H_x.out hb_); replace T_x := Aside0.mk (Kd.R_below T_x.out hb_); replace Z_x := Aside0.mk (Nat.le_trans Z_x.out (Below.size hb_)); replace H_z := Aside0.mk (Kd.R_below H_z.out hb_); replace T_z := Aside0.mk (Kd.R_below T_z.out hb_); replace Z_z := Aside0.mk (Nat.le_trans Z_z.out (Below.size hb_)); replace H_pt := Aside0.mk (Kd.R_below H_pt.out hb_); replace T_pt := Aside0.mk (Kd.R_below T_pt.out hb_); replace Z_pt := Aside0.mk (Nat.le_trans Z_pt.out (Below.size hb_)); replace H_pr := Aside0.mk (Kd.R_below H_pr.out hb_); replace T_pr := Aside0.mk (Kd.R_below T_pr.out hb_); replace Z_pr := Aside0.mk (Nat.le_trans Z_pr.out (Below.size hb_)); replace HB := Aside0.mk (below_step HB.out hb_); have H_l4 := Aside0.mk (Kd.R_lower ho_ (below_size HB0_.out)); obtain ⟨A_l4, c_l4, e_l4⟩ := Kd.R_slice ho_; subst e_l4; obtain ⟨f4, hf4, hO4⟩ := ph1_four A_l4 Ny4.out T_x.out T_z.out T_pt.out T_pr.out (Kd.F_mono (Kd.R_F (Kd.R_bound ho_)) (fun k hk => Nat.le_trans ZL.out hk.2.1)) S_z.out S_pt.out S_pr.out; have HF4 := Aside0.mk hf4; have HO4 := Aside0.mk hO4; clear hf4 hO4 ho_ hb_ hg_ hnew_ HB0_ ZL) | ((with_reducible refine gate_callee (f := 25) rfl ?_); (with_reducible refine gate_dst (N := 96) rfl ?_); (try (refine gate_guard (by rfl) ?_; dsimp only)); refine goesL_ (some 96) rfl rfl Try.func25 (by kernel_rfl) rfl #[.slice A_l4 y4.length c_l4] rfl (by (try simp only [List.map_toArray, List.map_cons, List.map_nil]); first | done | rfl) ?_; (refine (apart_calls f4 y4 A_l4 c_l4 ws.heap.size _ (below_size HB.out) (by rw [Ny4.out]; simp) (by rw [Ny4.out]; have := LP.out; have := LPR.out; have := LL.out; intro p hp; simp only [List.mem_cons, List.not_mem_nil, or_false] at hp; rcases hp with rfl | rfl | rfl | rfl <;> (show List.length _ ≤ _; omega)) HO4.out HF4.out).mono ?_); rintro e w_ap ⟨rfl, hb_⟩; refine ⟨_, rfl, ?_⟩; replace HB := Aside0.mk (HB.out.trans hb_); clear hb_))
    go_ret
    exact ⟨rfl, HB.out⟩
theorem puts_true (A N B : Option Addr) (ca cn cb : Nat) (la ln lb : List Int) (w : World) (hA : Kd.C (Kd.int .u8) w A la.length la) (hN : Kd.C (Kd.int .i64) w N ln.length ln) (hB : Kd.C (Kd.int .u8) w B lb.length lb) (hca : la.length ≤ ca) (hcn : ln.length ≤ cn) (hcb : lb.length ≤ cb)
    (hI : ∀ x ∈ ln, I64 x) (sa : la.length ≤ 140737488355328) (sb : lb.length ≤ 140737488355328) :
    Calls Try.prog 4 #[.slice A la.length ca, .slice N ln.length cn, .slice B lb.length cb] w fun e w' => e = .returned (.bool true) ∧ Below w.heap.size w w' := by
  by_cases hb : 5000 < ln.length
  · exact puts_many A N B ca cn cb la ln lb w hA hN hB hca hcn hcb hb
  · obtain ⟨K1, h1⟩ := large_comes (ls := [la, lb]) (fun l hl => by
      simp only [List.mem_cons, List.not_mem_nil, or_false] at hl
      rcases hl with rfl | rfl
      · exact sa
      · exact sb) (by simp)
    have h1 := h1 K1 (Nat.le_refl _)
    rw [show [la, lb].flatten = la ++ lb by simp, List.length_append] at h1
    by_cases hlg : 131072 < la.length + lb.length
    · rw [decide_eq_true hlg] at h1
      exact puts_large A N B ca cn cb la ln lb w hA hN hB hca hcn hcb K1 hb h1
    · rw [decide_eq_false hlg] at h1
      have hnl := nums_len hI
      obtain ⟨K2, h2⟩ := put_comes (acc := la) hI (by omega) (by omega)
      obtain ⟨K3, h3⟩ := putrow_comes (acc := la) (row := lb) (by omega)
      obtain ⟨K4, h4⟩ := rrow_comes (row := lb) (by omega)
      obtain ⟨K5, h5⟩ := rput_comes (acc := la) hI (by omega) (by omega)
      obtain ⟨K6, h6⟩ := ints_comes (l := ln) (by omega)
      have hrow : I64 (lb.length : Int) := by unfold I64; omega
      have hle := num_le hrow
      exact puts_main A N B ca cn cb la ln lb w hA hN hB hca hcn hcb K1 K2 K3 K4 K5 K6 hb h1 (by omega) _ _ _ (h2 K2 (Nat.le_refl _)) (h3 K3 (Nat.le_refl _)) (h4 K4 (Nat.le_refl _)) (h5 K5 (Nat.le_refl _)) (h6 K6 (Nat.le_refl _)) (by simp) (by rw [List.length_append]; omega) (by rw [List.length_append]; omega)
end Go.Proofs.Ytbphmpncajfaiaa.K
