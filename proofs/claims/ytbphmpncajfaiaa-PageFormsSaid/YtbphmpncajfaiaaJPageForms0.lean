/- Joined: Pyx0, K20, Pyx1, Pyx2, Pyx3, Pyx4, K0, Pyx5, Pyx6, K23, K24, Pyx24, Pyx25, Pyx30, Pyx31, K25, Pyx10, M1 -/
import Derived.Test.YtbphmpncajfaiaaProg
import Derived.Below
import Derived.Deep.Draws
import Derived.Deep.AppendLies
import Derived.Maps.AppendAt
import Derived.OwnWalk
import Derived.Laws.BytesArg
import Derived.Laws.MakeOwn
import Derived.Laws.OwnMore
import Derived.Deep.OwnRows
import Derived.Tactics
import Derived.Lib.ConvBytes
import Derived.Laws.Slices
import Derived.WalkKit
import Derived.KernelRfl
import Derived.RowKit3
import Derived.Deep.LoopGhost
import Derived.Deep.QuietTactic
import Derived.BigQuiet
import Derived.WideLaws
import Derived.Deep.DeepCutAuto
import Derived.Deep.CutBlock
import Derived.Deep.RegionHeld3
import Derived.Laws.Rows
import Derived.Lib.AppendStr
import Derived.ArgAppend
import Derived.Laws.IdiomCopy
import Derived.OrdersHeld
import Derived.Laws.BitsLemmas
import Derived.RowKit
import Derived.Test.YtbphmpncajfaiaaWWords
import Derived.Test.YtbphmpncajfaiaaWLast
import Derived.Test.YtbphmpncajfaiaaWTab
import Derived.Test.YtbphmpncajfaiaaWFour
import Derived.Test.YtbphmpncajfaiaaWQPut
import Derived.Test.YtbphmpncajfaiaaWApart
import Derived.Test.YtbphmpncajfaiaaWArr
import Derived.Test.YtbphmpncajfaiaaWZeros
import Derived.Test.YtbphmpncajfaiaaWFoot
import Derived.Test.YtbphmpncajfaiaaWKept
import Derived.Test.YtbphmpncajfaiaaWShare
import Derived.Test.YtbphmpncajfaiaaWN
import Derived.Test.YtbphmpncajfaiaaWFootNe
import Derived.Test.YtbphmpncajfaiaaWAt
import Derived.Test.YtbphmpncajfaiaaWEqStruct
import Derived.Test.YtbphmpncajfaiaaWRepsOne
import Derived.Test.YtbphmpncajfaiaaWInv
import Derived.Test.YtbphmpncajfaiaaWInvWords
import Derived.Test.YtbphmpncajfaiaaWGuard
import Derived.Test.YtbphmpncajfaiaaWNEv
import Derived.Test.YtbphmpncajfaiaaWMore
import Derived.Laws.StructEq
import Derived.WalkSpells
import Derived.Lib.Bytealg
import Derived.Lib.BytesEntry
import Derived.Laws.Externs
import Derived.Laws.Bits64
import Derived.Laws.Bits64b
import Derived.Laws.Bits128
-- PRINTED by print.py (a twelfth state) out of the translation. Not trusted: Lean checks it.
namespace Go.Proofs.Ytbphmpncajfaiaa.Py
open Go.RowKit Go.Proofs.YtbphmpncajfaiaaW.PrintWords Go.Proofs.YtbphmpncajfaiaaW.PrintLast Go.Proofs.YtbphmpncajfaiaaW.PrintMore
attribute [local go_sem] max2_int min2_int max_two min_two max_three min_three max_four min_four   -- for this text's walks alone
set_option linter.unusedVariables false
set_option linter.unusedSimpArgs false



def errW : Option Int → Value
  | none => .nilIface
  | some c => .iface 49 (.int .i64 c)
theorem errW_none : errW none = .nilIface := rfl
theorem errW_some (c : Int) : errW (some c) = .iface 49 (.int .i64 c) := rfl

theorem info3 : (Try.prog.info? 3).map (fun i => (i.zero, i.size, i.bytes)) = some (some (.int .i64 0), 1, 8) := by kernel_rfl
theorem info5 : (Try.prog.info? 5).map (fun i => (i.zero, i.size, i.bytes)) = some (some (.int .u8 0), 1, 1) := by kernel_rfl
theorem info22 : (Try.prog.info? 22).map (fun i => (i.zero, i.size, i.bytes)) = some (some (.slice none 0 0), 1, 24) := by kernel_rfl
-- the values' own types
def rd_L2 (xs : List (List Int)) (i : Int) : (List Int) := xs.getD i.toNat ([] : List Int)
theorem at_L2 {w : World} {A : Option Addr} {n : Nat} {xs : List (List Int)} (h : Kd.C (Kd.slice 5 (Kd.int .u8)) w A n xs) (i : Int) (h0 : 0 ≤ i) (h1 : i < n) : ∃ ad A0 c0, A = some ad ∧ w.cell? (ad.add i.toNat) = some (.slice A0 (rd_L2 xs i).length c0) ∧ (rd_L2 xs i).length ≤ c0 ∧ (Kd.int .u8).C w A0 (rd_L2 xs i).length (rd_L2 xs i) := by
  obtain ⟨ad, c, e, _, hK, hc0⟩ := Kd.C_get h ([] : List Int) i h0 h1
  have hc : ∀ j u, c[j]? = some u → w.cell? (ad.add (i.toNat * 1 + j)) = some u := hc0
  obtain ⟨A0, c0, rfl, l0, g0⟩ := hK
  exact ⟨ad, A0, c0, e, by have hq := hc 0 _ rfl; rwa [Nat.mul_one, Nat.add_zero] at hq, l0, g0⟩

end Go.Proofs.Ytbphmpncajfaiaa.Py
/- Words for pages: a struct of an integer and an array of integers, as a row of cells. -/
namespace Go.Proofs.Ytbphmpncajfaiaa.K
open Go.RowKit Go.Proofs.YtbphmpncajfaiaaW.PrintWords Go.Proofs.YtbphmpncajfaiaaW.PrintLast Go.Proofs.YtbphmpncajfaiaaW.PrintMore
set_option linter.unusedVariables false
set_option linter.unusedSimpArgs false
def pg (l : List Int) : Array Value := (l.map (Value.int .i64)).toArray
theorem pg_size (l : List Int) : (pg l).size = l.length := by simp [pg]
theorem pg_one (l : List Int) : (pg l).all (·.oneCell') = true := by
  rw [Array.all_eq_true_iff_forall_mem]
  intro v hv
  simp only [pg, List.mem_toArray, List.mem_map] at hv
  obtain ⟨x, _, rfl⟩ := hv
  rfl
theorem pg_at (l : List Int) (i : Nat) : (pg l)[i]? = (l[i]?).map (Value.int .i64) := by simp [pg]
theorem pg_set (l : List Int) (i : Nat) (x : Int) : (pg l).setIfInBounds i (.int .i64 x) = pg (l.set i x) := by
  apply Array.ext_getElem?
  intro j
  simp [pg, List.getElem?_set, Array.getElem?_setIfInBounds]
theorem size65 : (Try.prog.info? 65).map (·.size) = some 61 := by kernel_rfl
theorem size63 : (Try.prog.info? 63).map (·.size) = some 60 := by kernel_rfl
theorem size3 : (Try.prog.info? 3).map (·.size) = some 1 := by kernel_rfl
theorem built65 (n : Int) : Try.prog.built 65 [(0, .int .i64 n)] = some (pg (n :: List.replicate 60 0)) := by kernel_rfl
theorem blank65 : Try.prog.built 65 [] = some (pg (List.replicate 61 0)) := by kernel_rfl
theorem fields65 : Try.prog.fieldsOf 65 = #[{ name := "Lsn", type := 3, offset := 0, embedded := false, tag := "", pkgPath := "", byteOffset := 0 }, { name := "Cells", type := 63, offset := 1, embedded := false, tag := "", pkgPath := "", byteOffset := 8 }] := by kernel_rfl
theorem run_size3 (w : World) : (sizeOf 3).run Try.prog w = .ok 1 w := by
  have h := size3
  cases hq : Try.prog.info? 3 with
  | none => rw [hq] at h; cases h
  | some i =>
    rw [hq] at h
    simp only [Option.map_some, Option.some.injEq] at h
    simp [sizeOf, typeInfo, hq, h]
theorem run_size63 (w : World) : (sizeOf 63).run Try.prog w = .ok 60 w := by
  have h := size63
  cases hq : Try.prog.info? 63 with
  | none => rw [hq] at h; cases h
  | some i =>
    rw [hq] at h
    simp only [Option.map_some, Option.some.injEq] at h
    simp [sizeOf, typeInfo, hq, h]
theorem run_part3 (w : World) (cs : Array Value) (off : Nat) (v : Value) (h : cs[off]? = some v) : (part 3 cs off).run Try.prog w = .ok v w := by
  have : (isAgg 3).run Try.prog w = .ok false w := by
    unfold isAgg
    rw [Sem.run_bind, run_underlying Try.underlying3 w]
    rfl
  simp [part, Sem.run_bind, this, h]
theorem run_part63 (w : World) (cs : Array Value) (off : Nat) : (part 63 cs off).run Try.prog w = .ok (.agg (cs.extract off (off + 60))) w := by
  have : (isAgg 63).run Try.prog w = .ok true w := by
    unfold isAgg
    rw [Sem.run_bind, run_underlying Try.underlying63 w]
    rfl
  simp [part, Sem.run_bind, this, run_size63]
theorem run_eq63 (d : Nat) (w : World) (a b : List Int) (ha : a.length = 60) (hb : b.length = 60) : (Op.equalIn (d + 2) 63 (.agg (pg a)) (.agg (pg b))).run Try.prog w = .ok (decide (a = b)) w := by
  have hE : ∀ (x y : Int) (w : World), (Op.equalIn (d + 1) 3 (.int .i64 x) (.int .i64 y)).run Try.prog w = .ok (x == y) w := fun x y w => run_equalIn_int w d 3 .i64 .i64 x y Try.underlying3
  rw [Op.equalIn]
  revert hE
  generalize Op.equalIn (d + 1) = E
  intro hE
  simp only [Sem.run_bind, run_underlying Try.underlying63, Result.andThen_ok, run_size3, Std.Legacy.Range.forIn_eq_forIn_range', Std.Legacy.Range.size, Nat.sub_zero, Nat.add_one_sub_one, Nat.div_one, Nat.mul_one]
  have key : ∀ (l : List Nat), (∀ i ∈ l, i < 60) → ∀ w : World, (forIn l ((none, ()) : Option Bool × Unit) fun i __s => do
      let x ← part 3 (pg a) i
      let y ← part 3 (pg b) i
      let r ← E 3 x y
      if (!r) = true then pure (ForInStep.done (some false, ())) else do
        pure PUnit.unit
        pure (ForInStep.yield (none, ()))).run Try.prog w = .ok (if ∀ i ∈ l, a[i]? = b[i]? then (none, ()) else (some false, ())) w := by
    intro l
    induction l with
    | nil => intro _ w; simp
    | cons i l ih =>
      intro hl w
      have hi := hl i List.mem_cons_self
      have h1 : (pg a)[i]? = some (.int .i64 a[i]) := by rw [pg_at, List.getElem?_eq_getElem (by omega)]; rfl
      have h2 : (pg b)[i]? = some (.int .i64 b[i]) := by rw [pg_at, List.getElem?_eq_getElem (by omega)]; rfl
      simp only [List.forIn_cons, Sem.run_bind, run_part3 _ _ _ _ h1, run_part3 _ _ _ _ h2, Result.andThen_ok, hE]
      by_cases he : a[i] = b[i]
      · rw [show (a[i] == b[i]) = true by simp [he]]
        simp only [Bool.not_true, Bool.false_eq_true, if_false, Sem.run_bind, Sem.run_pure, Result.andThen_ok]
        rw [ih (fun j hj => hl j (List.mem_cons_of_mem _ hj)) w]
        have : (∀ j ∈ i :: l, a[j]? = b[j]?) ↔ ∀ j ∈ l, a[j]? = b[j]? := by
          refine ⟨fun h j hj => h j (List.mem_cons_of_mem _ hj), fun h j hj => ?_⟩
          rcases List.mem_cons.1 hj with rfl | hj
          · rw [List.getElem?_eq_getElem (by omega), List.getElem?_eq_getElem (by omega), he]
          · exact h j hj
        simp only [this]
      · rw [show (a[i] == b[i]) = false by simp [he]]
        simp only [Bool.not_false, if_true, Sem.run_pure, Result.andThen_ok]
        rw [if_neg]
        intro h
        have := h i List.mem_cons_self
        rw [List.getElem?_eq_getElem (by omega), List.getElem?_eq_getElem (by omega)] at this
        exact he (Option.some.inj this)
  have h := key (List.range' 0 60) (fun i hi => by simp at hi; omega) w
  have hab : (∀ i ∈ List.range' 0 60, a[i]? = b[i]?) ↔ a = b := by
    refine ⟨fun h => List.ext_getElem? (fun i => ?_), fun h => by intros; rw [h]⟩
    by_cases hi : i < 60
    · exact h i (by simp; omega)
    · rw [List.getElem?_eq_none (by omega), List.getElem?_eq_none (by omega)]
  simp only [hab] at h
  rw [h]
  by_cases he : a = b
  · simp [he]
  · simp [he]
theorem pg_extract (x : Int) (l : List Int) : (pg (x :: l)).extract 1 (1 + l.length) = pg l := by
  apply Array.ext_getElem?
  intro i
  simp only [pg, Array.getElem?_extract]
  rw [show 1 + i = i + 1 by omega]
  simp
  intro h
  rw [List.getElem?_eq_none (by omega)]
  rfl
theorem run_eq65 (w : World) (x y : Int) (a b : List Int) (ha : a.length = 60) (hb : b.length = 60) : (Op.equalIn 10000 65 (.agg (pg (x :: a))) (.agg (pg (y :: b)))).run Try.prog w = .ok (decide (x = y ∧ a = b)) w := by
  rw [run_equalIn_struct w 9999 65 _ _ (by rw [fields65]; exact Try.underlying65) (by kernel_rfl), fields65]
  have e1 := pg_extract x a
  have e2 := pg_extract y b
  rw [ha] at e1
  rw [hb] at e2
  simp only [Op.eqFields, Sem.run_bind]
  rw [if_pos (by decide)]
  simp only [Op.eqFields, Sem.run_bind, run_part3 _ (pg (x :: a)) 0 (.int .i64 x) (by simp [pg]), run_part3 _ (pg (y :: b)) 0 (.int .i64 y) (by simp [pg]), run_part63, e1, e2, Result.andThen_ok, run_equalIn_int w 9998 3 .i64 .i64 x y Try.underlying3, run_eq63 9997 w a b ha hb]
  by_cases h : x = y
  · subst h
    simp only [beq_self_eq_true, Bool.not_true, Bool.false_eq_true, if_false, true_and]
    rw [if_pos (by decide)]
    simp only [Sem.run_bind, run_part63, e1, e2, Result.andThen_ok, run_eq63 9997 w a b ha hb]
    by_cases he : a = b
    · simp [he]
    · simp [he]
  · simp [h]
theorem run_eql65 (w : World) (x y : Int) (a b : List Int) (ha : a.length = 60) (hb : b.length = 60) : (binOp .eql 65 (.agg (pg (x :: a))) (.agg (pg (y :: b)))).run Try.prog w = .ok (.bool (decide (x = y ∧ a = b))) w := by
  rw [run_eql_struct, run_eq65 w x y a b ha hb]
  rfl
theorem run_neq65 (w : World) (x y : Int) (a b : List Int) (ha : a.length = 60) (hb : b.length = 60) : (binOp .neq 65 (.agg (pg (x :: a))) (.agg (pg (y :: b)))).run Try.prog w = .ok (.bool (!decide (x = y ∧ a = b))) w := by
  rw [run_neq_struct, run_eq65 w x y a b ha hb]
  rfl
/-- A page's block. -/
def Page (w : World) (g : Nat) (l : List Int) : Prop := w.heap[g]? = some (.cells (pg l) 65 (0, 0)) ∧ l.length = 61
theorem Page.below {w w1 : World} {g : Nat} {l : List Int} (h : Page w g l) (hb : Below w.heap.size w w1) : Page w1 g l := ⟨(hb.block g (Array.getElem?_eq_some_iff.1 h.1).1).trans h.1, h.2⟩
theorem Page.lt {w : World} {g : Nat} {l : List Int} (h : Page w g l) : g < w.heap.size := (Array.getElem?_eq_some_iff.1 h.1).1
theorem Page.new (w : World) (l : List Int) (h : l.length = 61) : Page (w.alloc (.cells (pg l) 65)) w.heap.size l := ⟨heap_alloc_new w _, h⟩
theorem Page.cell {w : World} {g : Nat} {l : List Int} (h : Page w g l) (i : Nat) (x : Int) (hx : l[i]? = some x) : w.cell? ⟨g, i, none⟩ = some (.int .i64 x) := by
  rw [cell_of_row w g i _ _ _ h.1, pg_at, hx]
  rfl
theorem Page.free {w : World} {g : Nat} {l : List Int} (h : Page w g l) (i : Nat) : w.frozen? ⟨g, i, none⟩ = false := by
  simp [World.frozen?, h.1]
theorem Page.set {w : World} {g : Nat} {l : List Int} (h : Page w g l) (i : Nat) (x : Int) : Page (w.setCell ⟨g, i, none⟩ (.int .i64 x)) g (l.set i x) := by
  refine ⟨?_, by rw [List.length_set]; exact h.2⟩
  rw [← pg_set]
  unfold World.setCell
  simp only [Array.getElem?_modify, if_true, h.1, Option.map_some]
  rfl
theorem Page.far {w : World} {g g' : Nat} {l : List Int} (h : Page w g l) (hg : g ≠ g') (i : Nat) (v : Value) : Page (w.setCell ⟨g', i, none⟩ v) g l :=
  ⟨(Below.heap_setCell w ⟨g', i, none⟩ v g hg).trans h.1, h.2⟩
theorem Page.grown {w w1 : World} {g : Nat} {l : List Int} {row : Option Nat} (h : Page w g l) (hg : w.grownBy w1 row) (hne : some g ≠ row) : Page w1 g l := ⟨(hg.block g h.lt hne).trans h.1, h.2⟩
theorem page_below {w0 w w1 : World} {g : Nat} (h : Below w0.heap.size w0 w) (hg : w.grownBy w1 (some g)) (hB : w0.heap.size ≤ g) : Below w0.heap.size w0 w1 :=
  Below.grown h hg h.size (fun k e => by injection e with e; omega)
section
variable {ops : Array Oper} {rest : List Oper} {o : Oper} {a : Act} {Q : Exit → Act → World → Prop}
theorem page_alloc {W : World} (hgd : o.guard = none) (ho : o.op = .alloc 65) (h : ∀ g w1, g = W.heap.size → Page w1 g (List.replicate 61 0) → Below W.heap.size W w1 → wpList Try.prog ops Q rest (a.put o.dst (.pointer (some ⟨g, 0, none⟩))) w1) : wpList Try.prog ops Q (o :: rest) a W := by
  refine Kd.event_run hgd (v := .pointer (some ⟨W.heap.size, 0, none⟩)) (w1 := W.alloc (.cells (pg (List.replicate 61 0)) 65)) ?_ (h _ _ rfl (Page.new W _ (by simp)) (below_alloc (Below.refl _ _) _))
  have hz : (Try.prog.info? 65).map (·.zero) = some (some (.agg (pg (List.replicate 61 0)))) := by kernel_rfl
  cases hq : Try.prog.info? 65 with
  | none => rw [hq] at hz; cases hz
  | some i =>
    rw [hq] at hz
    simp only [Option.map_some, Option.some.injEq] at hz
    generalize pg (List.replicate 61 0) = z at hz ⊢
    simp [execOp, ho, Instr.alloc, zeroValue, typeInfo, hq, hz, newVar, newRow, Value.cells, Sem.run_bind]
theorem page_box {W : World} (hgd : o.guard = none) (x : Operand) (ho : o.op = .box 65 x) (l : List Int) (hl : l.length = 61) (hx : a.eval x = .agg (pg l)) (h : ∀ g w1, g = W.heap.size → Page w1 g l → Below W.heap.size W w1 → wpList Try.prog ops Q rest (a.put o.dst (.pointer (some ⟨g, 0, none⟩))) w1) : wpList Try.prog ops Q (o :: rest) a W := by
  refine Kd.event_run hgd (v := .pointer (some ⟨W.heap.size, 0, none⟩)) (w1 := W.alloc (.cells (pg l) 65)) ?_ (h _ _ rfl (Page.new W _ hl) (below_alloc (Below.refl _ _) _))
  simp [execOp, ho, hx, Instr.box, newVar, newRow, Value.cells, Sem.run_bind]
theorem setRow_page {W : World} {g : Nat} {l0 l : List Int} (hp : Page W g l0) (hl : l.length = 61) : Page (W.setRow g (pg l)) g l ∧ W.grownBy (W.setRow g (pg l)) (some g) :=
  ⟨⟨setRow_heap W g _ _ _ _ hp.1, hl⟩, rfl, rfl, rfl, by simp [World.setRow], fun k hk hne => setRow_other W g k _ (fun e => hne (by rw [e]))⟩
theorem page_store {W : World} (hgd : o.guard = none) (hd : o.dst = none) (x y : Operand) (ho : o.op = .store 65 x y) (g : Nat) (l0 l : List Int) (hx : a.eval x = .pointer (some ⟨g, 0, none⟩)) (hy : a.eval y = .agg (pg l)) (hp : Page W g l0) (hl : l.length = 61)
    (h : ∀ w1, Page w1 g l → W.grownBy w1 (some g) → wpList Try.prog ops Q rest a w1) : wpList Try.prog ops Q (o :: rest) a W := by
  refine wpList_store_row hgd 65 x y ho g (pg l) hx hy 65 (pg l0) hp.1 (by rw [pg_size, hl]; exact size65) (by rw [pg_size, pg_size, hl, hp.2]) (pg_one l) ?_
  rw [hd]
  have := setRow_page hp hl
  exact h _ this.1 this.2
theorem page_load {W : World} (hgd : o.guard = none) (x : Operand) (ho : o.op = .load 65 x) (g : Nat) (l : List Int) (hx : a.eval x = .pointer (some ⟨g, 0, none⟩)) (hp : Page W g l) (h : wpList Try.prog ops Q rest (a.put o.dst (.agg (pg l))) W) : wpList Try.prog ops Q (o :: rest) a W :=
  wpList_load_row hgd 65 x ho g hx 65 (pg l) (0, 0) _ hp.1 Try.underlying65 rfl (by rw [pg_size, hp.2]; exact size65) h
theorem page_build {W : World} (hgd : o.guard = none) (x : Operand) (n : Int) (ho : o.op = .build 65 #[(0, x)]) (hx : a.eval x = .int .i64 n) (l : List Int) (hl : l = n :: List.replicate 60 0) (h : wpList Try.prog ops Q rest (a.put o.dst (.agg (pg l))) W) : wpList Try.prog ops Q (o :: rest) a W := by
  subst hl
  refine Kd.event_run hgd (v := .agg (pg (n :: List.replicate 60 0))) (w1 := W) ?_ h
  have := run_build (P := Try.prog) W 65 #[(0, .int .i64 n)] _ (built65 n)
  simp [execOp, ho, hx, this, Sem.run_bind]
theorem page_blank {W : World} (hgd : o.guard = none) (ho : o.op = .build 65 #[]) (l : List Int) (hl : l = List.replicate 61 0) (h : wpList Try.prog ops Q rest (a.put o.dst (.agg (pg l))) W) : wpList Try.prog ops Q (o :: rest) a W := by
  subst hl
  refine Kd.event_run hgd (v := .agg (pg (List.replicate 61 0))) (w1 := W) ?_ h
  have := run_build (P := Try.prog) W 65 #[] _ blank65
  simp [execOp, ho, this, Sem.run_bind]
theorem agg63 (w : World) : (isAgg 63).run Try.prog w = .ok true w := by
  unfold isAgg
  rw [Sem.run_bind, run_underlying Try.underlying63 w]
  rfl
theorem page_cells {W : World} (hgd : o.guard = none) (x : Operand) (ho : o.op = .load 63 x) (g : Nat) (lsn : Int) (l : List Int) (hx : a.eval x = .pointer (some ⟨g, 1, none⟩)) (hp : Page W g (lsn :: l)) (h : wpList Try.prog ops Q rest (a.put o.dst (.agg (pg l))) W) : wpList Try.prog ops Q (o :: rest) a W := by
  refine Kd.event_run hgd (v := .agg (pg l)) (w1 := W) ?_ h
  have hl : l.length = 60 := by have := hp.2; simpa using this
  have hr := run_loadCells_list (P := Try.prog) W ⟨g, 1, none⟩ (l.map (Value.int .i64)) (fun j v hv => by
    have hadd : (⟨g, 1, none⟩ : Addr).add j = ⟨g, j + 1, none⟩ := by unfold Addr.add; split <;> simp_all <;> omega
    rw [hadd, cell_of_row W g (j + 1) _ _ _ hp.1, pg_at]
    simpa using hv)
  rw [List.length_map, hl] at hr
  simp only [execOp, ho, hx, Instr.loadAt, Instr.sureAddr, loadVar, Sem.run_bind, Sem.run_pure, Result.andThen_ok, agg63, run_size63, hr, if_true]
  rfl
theorem page_index {W : World} (hgd : o.guard = none) (x y : Operand) (ho : o.op = .index 63 x y) (l : List Int) (i : Int) (hl : l.length = 60) (hx : a.eval x = .agg (pg l)) (hy : a.eval y = .int .i64 i) (h0 : 0 ≤ i) (h1 : i < 60) (h : wpList Try.prog ops Q rest (a.put o.dst (.int .i64 (rd l i))) W) : wpList Try.prog ops Q (o :: rest) a W := by
  refine Kd.event_run hgd (v := .int .i64 (rd l i)) (w1 := W) ?_ h
  have hp : (pg l)[i.toNat]? = some (.int .i64 (rd l i)) := by
    rw [pg_at]
    unfold rd
    simp [List.getElem?_eq_getElem (show i.toNat < l.length by omega)]
  have h2 : 0 ≤ i ∧ i < ((60 : Nat) : Int) := ⟨h0, h1⟩
  simp [execOp, ho, hx, hy, Instr.index, asIntOf, Sem.run_bind, run_underlying Try.underlying63, h2, run_size3, run_part3 _ _ _ _ hp]
  intro h3
  omega
end
/-- A page whose cells up to the x-th are f's, the others 0. -/
def uptoF (n : Int) (f : Nat → Int) (x : Nat) : List Int := n :: (List.range 60).map (fun i => if i < x then f i else 0)
theorem uptoF_len (n : Int) (f : Nat → Int) (x : Nat) : (uptoF n f x).length = 61 := by simp [uptoF]
theorem uptoF_zero (n : Int) (f : Nat → Int) : uptoF n f 0 = n :: List.replicate 60 0 := by simp [uptoF, List.map_const']
theorem uptoF_full (n : Int) (f : Nat → Int) : uptoF n f 60 = n :: (List.range 60).map f := by
  unfold uptoF
  rw [List.map_congr_left (fun i hi => by rw [if_pos (List.mem_range.1 hi)])]
theorem uptoF_step (n : Int) (f : Nat → Int) (x : Nat) (h : x < 60) : (uptoF n f x).set (1 + x) (f x) = uptoF n f (x + 1) := by
  unfold uptoF
  rw [show 1 + x = x + 1 by omega, List.set_cons_succ]
  congr 1
  apply List.ext_getElem?
  intro j
  rw [List.getElem?_set]
  simp only [List.length_map, List.length_range, List.getElem?_map]
  by_cases hj : x = j
  · subst hj
    simp [h]
  · rw [if_neg hj]
    by_cases hl : j < 60
    · simp only [List.getElem?_range hl, Option.map_some, Option.some.injEq]
      by_cases h1 : j < x
      · rw [if_pos h1, if_pos (by omega)]
      · rw [if_neg h1, if_neg (by omega)]
    · rw [List.getElem?_eq_none (by simp; omega)]
      rfl
end Go.Proofs.Ytbphmpncajfaiaa.K
-- PRINTED by print.py (a twelfth state) out of the translation. Not trusted: Lean checks it.
namespace Go.Proofs.Ytbphmpncajfaiaa.Py
open Go.RowKit Go.Proofs.YtbphmpncajfaiaaW.PrintWords Go.Proofs.YtbphmpncajfaiaaW.PrintLast Go.Proofs.YtbphmpncajfaiaaW.PrintMore
attribute [local go_sem] max2_int min2_int max_two min_two max_three min_three max_four min_four   -- for this text's walks alone
set_option linter.unusedVariables false
set_option linter.unusedSimpArgs false

/-! ### wire_turned: function 56 -/
def wire_turned.f (a0 : Int) : Option (Int) := some (Go.bits .xor .u64 (IntKind.u64.wrap ((IntKind.u64.wrap (a0)) * 2)) (IntKind.u64.wrap (a0 / 9223372036854775808)))
set_option maxHeartbeats 8000000 in
set_option maxRecDepth 100000 in
theorem wire_turned.calls (a0 : Int) (r : Int) (w : World) (h : wire_turned.f a0 = some r) :
    Calls Try.prog 56 #[.int .i64 a0] w fun e w' => e = .returned (.int .u64 r) ∧ Drawn0 w w' := by
  have H : (some (Go.bits .xor .u64 (IntKind.u64.wrap ((IntKind.u64.wrap (a0)) * 2)) (IntKind.u64.wrap (a0 / 9223372036854775808)))) = some r := h
  clear h
  obtain rfl := Option.some.inj H
  go_enter Try.func56, Try.ntmps56
  go_wp2
  go_ret
  exact ⟨by first | rfl | (simp; done) | (simp [*]; done), by repeat (first | exact Drawn0.refl _ | apply Drawn0.step)⟩

end Go.Proofs.Ytbphmpncajfaiaa.Py
-- PRINTED by print.py (a twelfth state) out of the translation. Not trusted: Lean checks it.
namespace Go.Proofs.Ytbphmpncajfaiaa.Py
open Go.RowKit Go.Proofs.YtbphmpncajfaiaaW.PrintWords Go.Proofs.YtbphmpncajfaiaaW.PrintLast Go.Proofs.YtbphmpncajfaiaaW.PrintMore
attribute [local go_sem] max2_int min2_int max_two min_two max_three min_three max_four min_four   -- for this text's walks alone
set_option linter.unusedVariables false
set_option linter.unusedSimpArgs false

/-! ### wire_put: function 49 -/
mutual
def wire_put.l0 : Nat → List Int → List Int → Int → Int → Option (List Int)
  | 0, _, _, _, _ => none
  | k + 1, x0, x8, x9, x10 => if x10 < x9 then (if 0 ≤ x10 then (if x10 < (x8.length : Int) then ((wire_turned.f (rd x8 x10)).bind fun t102 => (wire_put.l1 k x0 t102 x8 x9 x10)) else (none)) else (none)) else (some x0)
def wire_put.l1 : Nat → List Int → Int → List Int → Int → Int → Option (List Int)
  | 0, _, _, _, _, _ => none
  | k + 1, x0, x7, x8, x9, x10 => if x7 ≥ 128 then (if x0.length < 140737488355328 then (wire_put.l1 k (x0 ++ [Go.bits .or .u8 ((x7) % 256) 128]) (x7 / 128) x8 x9 x10) else (none)) else (if x0.length < 140737488355328 then (wire_put.l0 k (x0 ++ [(x7) % 256]) x8 x9 (wrap64 (x10 + 1))) else (none))
end
def wire_put.f (k : Nat) (l0 : List Int) (l1 : List Int) : Option (List Int) := wire_put.l0 k l0 l1 (l1.length : Int) 0
theorem wire_put.mono_l : ∀ k, (∀ y0 y1 y2 y3, LeO (wire_put.l0 k y0 y1 y2 y3) (wire_put.l0 (k + 1) y0 y1 y2 y3)) ∧ (∀ y0 y1 y2 y3 y4, LeO (wire_put.l1 k y0 y1 y2 y3 y4) (wire_put.l1 (k + 1) y0 y1 y2 y3 y4))
  | 0 => ⟨fun _ _ _ _ r h => by simp [wire_put.l0] at h, fun _ _ _ _ _ r h => by simp [wire_put.l1] at h⟩
  | k + 1 => by
    obtain ⟨ih0, ih1⟩ := wire_put.mono_l k
    refine ⟨?_, ?_⟩
    · intro y0 y1 y2 y3
      unfold wire_put.l0
      repeat' first
      | (with_reducible exact ih0 _ _ _ _)
      | (with_reducible exact ih1 _ _ _ _ _)
      | (with_reducible exact LeO.refl _)
      | (with_reducible exact LeO.none _)
      | (with_reducible refine LeO.ite ?_ ?_)
      | (with_reducible refine LeO.bind ?_ (fun _ => ?_))
      | exact ih0 _ _ _ _
      | exact ih1 _ _ _ _ _
      | exact LeO.none _
      | refine LeO.ite ?_ ?_
      | refine LeO.bind ?_ (fun _ => ?_)
    · intro y0 y1 y2 y3 y4
      unfold wire_put.l1
      repeat' first
      | (with_reducible exact ih0 _ _ _ _)
      | (with_reducible exact ih1 _ _ _ _ _)
      | (with_reducible exact LeO.refl _)
      | (with_reducible exact LeO.none _)
      | (with_reducible refine LeO.ite ?_ ?_)
      | (with_reducible refine LeO.bind ?_ (fun _ => ?_))
      | exact ih0 _ _ _ _
      | exact ih1 _ _ _ _ _
      | exact LeO.none _
      | refine LeO.ite ?_ ?_
      | refine LeO.bind ?_ (fun _ => ?_)
theorem wire_put.mono : ∀ a0 a1 k, LeO (wire_put.f k a0 a1) (wire_put.f (k + 1) a0 a1) := by
  intro a0 a1 k
  obtain ⟨ih0, ih1⟩ := wire_put.mono_l k
  unfold wire_put.f
  repeat' first
      | (with_reducible exact ih0 _ _ _ _)
      | (with_reducible exact ih1 _ _ _ _ _)
      | (with_reducible exact LeO.refl _)
      | (with_reducible exact LeO.none _)
      | (with_reducible refine LeO.ite ?_ ?_)
      | (with_reducible refine LeO.bind ?_ (fun _ => ?_))
      | exact ih0 _ _ _ _
      | exact ih1 _ _ _ _ _
      | exact LeO.none _
      | refine LeO.ite ?_ ?_
      | refine LeO.bind ?_ (fun _ => ?_)
set_option maxHeartbeats 8000000 in
set_option maxRecDepth 100000 in
theorem wire_put.calls (k : Nat) (P0_ : Nat → Prop) (u9000_ : Value) (l0 : List Int) (A1 : Option Addr) (c1 : Nat) (l1 : List Int) (r : List Int) (w0 w : World) (hB : Below w0.heap.size w0 w) (ho0 : Kd.R (Kd.int .u8) 5 w w0.heap.size P0_ u9000_ l0) (hr1 : ∀ W_, Kept w W_ (fun k_ => P0_ k_) → Kd.C (Kd.int .i64) W_ A1 l1.length l1) (hc1 : l1.length ≤ c1) (h : wire_put.f k l0 l1 = some r) :
    Calls Try.prog 49 #[u9000_, .slice A1 l1.length c1] w fun e w' => ∃ v0_ : Value, e = .returned (v0_) ∧ Kd.R (Kd.int .u8) 5 w' w0.heap.size (fun k_ => (P0_ k_ ∨ w.heap.size ≤ k_)) v0_ r ∧ Below w0.heap.size w0 w' ∧ Kept w w' (fun k_ => P0_ k_) := by
  have HO0 := Aside0.mk (show Kd.R (Kd.int .u8) 5 w w0.heap.size (fun k_ => (P0_ k_ ∨ w.heap.size ≤ k_)) u9000_ l0 from Kd.R_mono ho0 (fun k_ hk => (.inl hk)))
  have HR1 := Aside0.mk hr1
  have HC1 := Aside0.mk hc1
  clear hr1 hc1
  have HK := Aside0.mk (Kept.refl w (fun k_ => P0_ k_))
  have HW0 := Aside0.mk hB.size
  have HB := Aside0.mk hB
  clear hB
  have H : (wire_put.l0 k l0 l1 (l1.length : Int) 0) = some r := h
  clear h
  have H' := Aside0.mk H
  clear H
  go_enter Try.func49, Try.ntmps49
  go_wp2
  go_loopg [0, 10] k (fun kq v0 v10 w' => ∃ (x0_1 : List Int) (x10_1 : Int), v10 = .int .i64 x10_1 ∧ Aside0 (wire_put.l0 kq x0_1 l1 (l1.length : Int) x10_1 = some r) ∧ Aside0 (kq ≤ k) ∧ Aside0 (Kd.R (Kd.int .u8) 5 w' w0.heap.size (fun k_ => (P0_ k_ ∨ w.heap.size ≤ k_)) v0 x0_1) ∧ Aside0 (Kept w w' (fun k_ => P0_ k_)) ∧ Aside0 (Below w0.heap.size w0 w'))
  case atStart => exact ⟨(l0), (0), (by first | rfl | (simp; done) | (simp [*]; done)), H', ⟨Nat.le_refl _⟩, ⟨by (with_reducible repeat (first | apply Kd.R_alloc | apply Kd.R_drewN | apply Kd.R_drew)); exact HO0.out⟩, ⟨by repeat (first | (with_reducible first | exact HK.out | apply Kept.alloc | apply Kept.drewN | apply Kept.drew) | exact HK.out)⟩, ⟨by repeat (first | (with_reducible first | exact HB.out | apply below_alloc | apply pw_below_drewN | apply below_drew1) | exact HB.out)⟩⟩
  case round =>
    clear H'
    try clear c1
    try clear p2
    obtain ⟨x0_1, x10_1, rfl, HA, HK1, HO_0, HK, HB⟩ := hrel
    cases gk with
    | zero => exact absurd HA.out (by simp [wire_put.l0])
    | succ k1 =>
      have H := HA.out
      clear HA
      simp only [wire_put.l0] at H
      by_cases c3 : x10_1 < (l1.length : Int)
      · rw [if_pos c3] at H
        have c3b0 : decide (x10_1 < (l1.length : Int)) = true := decide_eq_true c3
        clear c3
        by_cases c4 : 0 ≤ x10_1
        · rw [if_pos c4] at H
          have c4b0 : decide (0 ≤ x10_1) = true := decide_eq_true c4
          clear c4
          by_cases c5 : x10_1 < (l1.length : Int)
          · rw [if_pos c5] at H
            have c5b0 : decide (x10_1 < (l1.length : Int)) = true := decide_eq_true c5
            clear c5
            replace H := Option.bind_eq_some_iff.mp H
            obtain ⟨t102, A60, H⟩ := H
            replace H : (wire_put.l1 k1 x0_1 t102 l1 (l1.length : Int) x10_1) = some r := H
            have A6 := Aside0.mk A60
            clear A60
            have H' := Aside0.mk H
            clear H
            have p101 : 0 ≤ (x10_1 : Int) := of_decide_eq_true (by first | (with_reducible assumption) | assumption)
            have q101 : x10_1 < (l1.length : Int) := of_decide_eq_true (by first | (with_reducible assumption) | assumption)
            obtain ⟨ad101, e101, hx101_0⟩ := Kd.at_int (Kd.C_kept_now HR1.out HK.out) x10_1 p101 q101
            cases e101
            replace p101 := eq_true p101
            replace q101 := eq_true q101
            go_wp2_with (first | ((with_reducible refine gate_callee (f := 56) rfl ?_); refine goesL_ (some 15) rfl rfl Try.func56 (by kernel_rfl) rfl #[.int .i64 (rd l1 x10_1)] rfl (by (try simp only [List.map_toArray, List.map_cons, List.map_nil]); first | done | rfl | (simp only [List.length_drop, List.length_take]; rfl)) ?_; (with_reducible refine (wire_turned.calls (rd l1 x10_1) t102 _ A6.out).mono ?_); rintro e w' ⟨rfl, ⟨nd, rfl⟩⟩; refine ⟨_, rfl, ?_⟩))
            go_loopg [0, 7] k1 (fun kq v0 v7 w' => ∃ (x0_2 : List Int) (x7_2 : Int), v7 = .int .u64 x7_2 ∧ Aside0 (wire_put.l1 kq x0_2 x7_2 l1 (l1.length : Int) x10_1 = some r) ∧ Aside0 (kq ≤ k1) ∧ Aside0 (Kd.R (Kd.int .u8) 5 w' w0.heap.size (fun k_ => (P0_ k_ ∨ w.heap.size ≤ k_)) v0 x0_2) ∧ Aside0 (Kept w w' (fun k_ => P0_ k_)) ∧ Aside0 (Below w0.heap.size w0 w'))
            case atStart => exact ⟨(x0_1), (t102), (by first | rfl | (simp; done) | (simp [*]; done)), H', ⟨Nat.le_refl _⟩, ⟨by (with_reducible repeat (first | apply Kd.R_alloc | apply Kd.R_drewN | apply Kd.R_drew)); exact HO_0.out⟩, ⟨by repeat (first | (with_reducible first | exact HK.out | apply Kept.alloc | apply Kept.drewN | apply Kept.drew) | exact HK.out)⟩, ⟨by repeat (first | (with_reducible first | exact HB.out | apply below_alloc | apply pw_below_drewN | apply below_drew1) | exact HB.out)⟩⟩
            case round =>
              clear H'
              try clear c1
              try clear p1
              try clear q1
              try clear hx1
              try clear p2
              try clear c3
              try clear c3b0
              try clear c4
              try clear c4b0
              try clear c5
              try clear c5b0
              try clear hx101_0
              try clear p101
              try clear p2
              try clear q101
              obtain ⟨x0_2, x7_2, rfl, HA, HK2, HO_0, HK, HB⟩ := hrel
              cases gk with
              | zero => exact absurd HA.out (by simp [wire_put.l1])
              | succ k2 =>
                have H := HA.out
                clear HA
                simp only [wire_put.l1] at H
                by_cases c7 : x7_2 ≥ 128
                · rw [if_pos c7] at H
                  have c7b0 : decide (128 ≤ x7_2) = true := decide_eq_true c7
                  clear c7
                  by_cases c8 : x0_2.length < 140737488355328
                  · rw [if_pos c8] at H
                    have LMc8 := Aside0.mk c8
                    clear c8
                    obtain ⟨y103, hy103⟩ : ∃ y_ : List Int, y_ = (x0_2 ++ [Go.bits .or .u8 ((x7_2) % 256) 128]) := ⟨_, rfl⟩
                    replace H : (wire_put.l1 k2 y103 (x7_2 / 128) l1 (l1.length : Int) x10_1) = some r := by first | (rw [hy103]; with_reducible exact H) | (have H2_ := (Option.bind_some _ _).symm.trans H; rw [hy103]; with_reducible exact H2_) | (have H2_ := (Option.bind_some _ _).symm.trans H; with_reducible exact H2_) | with_reducible exact H | (rw [hy103]; exact H) | exact H
                    have Ny103 := Aside0.mk hy103
                    clear hy103
                    have H' := Aside0.mk H
                    clear H
                    go_wp2_with (first | ((with_reducible refine gate_builtin (b := .append) (xs := #[.tmp 20, .tmp 24]) rfl ?_); at_builtin; refine Kd.R_append (Kd.int .u8) (w0 := w0) w0.heap.size rfl (.tmp 20) (.tmp 24) 22 5 (.int .u8 0) 1 rfl Try.underlying22 info5 rfl (by decide) (by omega) u0 x0_2 (Go.bits .or .u8 ((x7_2) % 256) 128) [.int .u8 (Go.bits .or .u8 ((x7_2) % 256) 128)] (fun k_ => (P0_ k_ ∨ w.heap.size ≤ k_)) (fun _ => False) rfl rfl ?aP (fun _ hk => hk.elim) ?aF ?aO ?aB ?aS ?aL ?_; (case aP => exact rfl); (case aB => exact (by repeat (first | (with_reducible first | exact HB.out | apply below_alloc | apply pw_below_drewN | apply below_drew1) | exact HB.out))); (case aF => exact (fun k_ hk => (.inr (Nat.le_trans (by first | exact HK.out.1 | exact (show Kept w _ (fun k_ => P0_ k_) from by repeat (first | (with_reducible first | exact HK.out | apply Kept.alloc | apply Kept.drewN | apply Kept.drew) | exact HK.out)).1) hk)))); (case aO => exact (by (with_reducible repeat (first | apply Kd.R_alloc | apply Kd.R_drewN | apply Kd.R_drew)); exact HO_0.out)); (case aS => exact (below_size (by repeat (first | (with_reducible first | exact HB.out | apply below_alloc | apply pw_below_drewN | apply below_drew1) | exact HB.out)))); (case aL => have := LMc8.out; omega); intro v104 w9 ho hb hg hat; rw [← Ny103.out] at ho; have n0_ := Aside0.mk (hb); have n1_ := Aside0.mk (Kept.of_grown (S := (fun k_ => P0_ k_)) hg (by repeat (first | (with_reducible first | exact HK.out | apply Kept.alloc | apply Kept.drewN | apply Kept.drew) | exact HK.out)) (fun k_ e_ => (HO_0.out.1 k_ e_))); have n2_ := Aside0.mk (ho); clear HB; clear HK; clear HO_0; have HB := n0_; have HK := n1_; have HO105 := n2_; clear n0_ n1_ n2_; clear ho hb hg hat))
                    go_roundg k2
                    case measure => have := HK1.out; have := HK2.out; omega
                    case rel => exact ⟨(y103), (x7_2 / 128), (by first | rfl | (simp; done) | (simp [*]; done)), H', ⟨by have := HK1.out; have := HK2.out; omega⟩, ⟨by (with_reducible repeat (first | apply Kd.R_alloc | apply Kd.R_drewN | apply Kd.R_drew)); exact HO105.out⟩, ⟨by repeat (first | (with_reducible first | exact HK.out | apply Kept.alloc | apply Kept.drewN | apply Kept.drew) | exact HK.out)⟩, ⟨by repeat (first | (with_reducible first | exact HB.out | apply below_alloc | apply pw_below_drewN | apply below_drew1) | exact HB.out)⟩⟩
                  · rw [if_neg c8] at H
                    exact absurd H (by simp)
                · rw [if_neg c7] at H
                  have c7b0 : decide (128 ≤ x7_2) = false := decide_eq_false c7
                  clear c7
                  by_cases c10 : x0_2.length < 140737488355328
                  · rw [if_pos c10] at H
                    have LMc10 := Aside0.mk c10
                    clear c10
                    obtain ⟨y106, hy106⟩ : ∃ y_ : List Int, y_ = (x0_2 ++ [(x7_2) % 256]) := ⟨_, rfl⟩
                    replace H : (wire_put.l0 k2 y106 l1 (l1.length : Int) (wrap64 (x10_1 + 1))) = some r := by first | (rw [hy106]; with_reducible exact H) | (have H2_ := (Option.bind_some _ _).symm.trans H; rw [hy106]; with_reducible exact H2_) | (have H2_ := (Option.bind_some _ _).symm.trans H; with_reducible exact H2_) | with_reducible exact H | (rw [hy106]; exact H) | exact H
                    have Ny106 := Aside0.mk hy106
                    clear hy106
                    have H' := Aside0.mk H
                    clear H
                    go_wp2_with (first | ((with_reducible refine gate_builtin (b := .append) (xs := #[.tmp 26, .tmp 29]) rfl ?_); at_builtin; refine Kd.R_append (Kd.int .u8) (w0 := w0) w0.heap.size rfl (.tmp 26) (.tmp 29) 22 5 (.int .u8 0) 1 rfl Try.underlying22 info5 rfl (by decide) (by omega) u0 x0_2 ((x7_2) % 256) [.int .u8 ((x7_2) % 256)] (fun k_ => (P0_ k_ ∨ w.heap.size ≤ k_)) (fun _ => False) rfl rfl ?aP (fun _ hk => hk.elim) ?aF ?aO ?aB ?aS ?aL ?_; (case aP => exact rfl); (case aB => exact (by repeat (first | (with_reducible first | exact HB.out | apply below_alloc | apply pw_below_drewN | apply below_drew1) | exact HB.out))); (case aF => exact (fun k_ hk => (.inr (Nat.le_trans (by first | exact HK.out.1 | exact (show Kept w _ (fun k_ => P0_ k_) from by repeat (first | (with_reducible first | exact HK.out | apply Kept.alloc | apply Kept.drewN | apply Kept.drew) | exact HK.out)).1) hk)))); (case aO => exact (by (with_reducible repeat (first | apply Kd.R_alloc | apply Kd.R_drewN | apply Kd.R_drew)); exact HO_0.out)); (case aS => exact (below_size (by repeat (first | (with_reducible first | exact HB.out | apply below_alloc | apply pw_below_drewN | apply below_drew1) | exact HB.out)))); (case aL => have := LMc10.out; omega); intro v107 w11 ho hb hg hat; rw [← Ny106.out] at ho; have n0_ := Aside0.mk (hb); have n1_ := Aside0.mk (Kept.of_grown (S := (fun k_ => P0_ k_)) hg (by repeat (first | (with_reducible first | exact HK.out | apply Kept.alloc | apply Kept.drewN | apply Kept.drew) | exact HK.out)) (fun k_ e_ => (HO_0.out.1 k_ e_))); have n2_ := Aside0.mk (ho); clear HB; clear HK; clear HO_0; have HB := n0_; have HK := n1_; have HO108 := n2_; clear n0_ n1_ n2_; clear ho hb hg hat))
                    go_roundg k2
                    case measure => have := HK1.out; have := HK2.out; omega
                    case rel => exact ⟨(y106), (wrap64 (x10_1 + 1)), (by first | rfl | (simp; done) | (simp [*]; done)), H', ⟨by have := HK1.out; have := HK2.out; omega⟩, ⟨by (with_reducible repeat (first | apply Kd.R_alloc | apply Kd.R_drewN | apply Kd.R_drew)); exact HO108.out⟩, ⟨by repeat (first | (with_reducible first | exact HK.out | apply Kept.alloc | apply Kept.drewN | apply Kept.drew) | exact HK.out)⟩, ⟨by repeat (first | (with_reducible first | exact HB.out | apply below_alloc | apply pw_below_drewN | apply below_drew1) | exact HB.out)⟩⟩
                  · rw [if_neg c10] at H
                    exact absurd H (by simp)
          · rw [if_neg c5] at H
            exact absurd H (by simp)
        · rw [if_neg c4] at H
          exact absurd H (by simp)
      · rw [if_neg c3] at H
        have c3b0 : decide (x10_1 < (l1.length : Int)) = false := decide_eq_false c3
        clear c3
        obtain rfl := Option.some.inj H
        go_wp2
        go_ret
        exact ⟨_, by first | rfl | (simp [errW_none, errW_some] <;> rfl) | (simp [*, errW_none, errW_some] <;> rfl), by (with_reducible repeat (first | apply Kd.R_alloc | apply Kd.R_drewN | apply Kd.R_drew)); exact HO_0.out, by repeat (first | (with_reducible first | exact HB.out | apply below_alloc | apply pw_below_drewN | apply below_drew1) | exact HB.out), by repeat (first | (with_reducible first | exact HK.out | apply Kept.alloc | apply Kept.drewN | apply Kept.drew) | exact HK.out)⟩

end Go.Proofs.Ytbphmpncajfaiaa.Py
-- begun as a text of the kit's print.py (over a near text), mended by hand
namespace Go.Proofs.Ytbphmpncajfaiaa.Py
open Go.RowKit Go.Proofs.YtbphmpncajfaiaaW.PrintWords Go.Proofs.YtbphmpncajfaiaaW.PrintLast Go.Proofs.YtbphmpncajfaiaaW.PrintMore
attribute [local go_sem] max2_int min2_int max_two min_two max_three min_three max_four min_four   -- for this text's walks alone
set_option linter.unusedVariables false
set_option linter.unusedSimpArgs false

/-! ### slices_Clone_byte_byte: function 50 -/
def slices_Clone_byte_byte.f (l0 : List Int) : Option (List Int) := (some (([] : List Int) : List Int)).bind fun y109 => (if y109.length + l0.length < 140737488355328 then (some (y109 ++ l0)) else (none))
set_option maxHeartbeats 8000000 in
set_option maxRecDepth 100000 in
theorem slices_Clone_byte_byte.calls (A0 : Option Addr) (c0 : Nat) (l0 : List Int) (r : List Int) (w : World) (hr0 : Kd.C (Kd.int .u8) w A0 l0.length l0) (hc0 : l0.length ≤ c0) (h : slices_Clone_byte_byte.f l0 = some r) :
    Calls Try.prog 50 #[.slice A0 l0.length c0] w fun e w' => ∃ v0_ : Value, e = .returned (v0_) ∧ Kd.R (Kd.int .u8) 5 w' w.heap.size (fun _ => True) v0_ r ∧ Below w.heap.size w w' := by
  have HR0 := Aside0.mk hr0
  have HC0 := Aside0.mk hc0
  clear hr0 hc0
  have HB := Aside0.mk (Below.refl w.heap.size w)
  have H : ((some (([] : List Int) : List Int)).bind fun y109 => (if y109.length + l0.length < 140737488355328 then (some (y109 ++ l0)) else (none))) = some r := h
  clear h
  obtain ⟨y109, hy109⟩ : ∃ y_ : List Int, y_ = (([] : List Int)) := ⟨_, rfl⟩
  replace H : (if y109.length + l0.length < 140737488355328 then (some (y109 ++ l0)) else (none)) = some r := by first | (rw [hy109]; with_reducible exact H) | (have H2_ := (Option.bind_some _ _).symm.trans H; rw [hy109]; with_reducible exact H2_) | (have H2_ := (Option.bind_some _ _).symm.trans H; with_reducible exact H2_) | with_reducible exact H | (rw [hy109]; exact H) | exact H
  have Ny109 := Aside0.mk hy109
  clear hy109
  by_cases c2 : y109.length + l0.length < 140737488355328
  · rw [if_pos c2] at H
    have LMc2 := Aside0.mk c2
    clear c2
    obtain ⟨y112, hy112⟩ : ∃ y_ : List Int, y_ = (y109 ++ l0) := ⟨_, rfl⟩
    replace H : (some y112) = some r := by first | (rw [hy112]; with_reducible exact H) | (have H2_ := (Option.bind_some _ _).symm.trans H; rw [hy112]; with_reducible exact H2_) | (have H2_ := (Option.bind_some _ _).symm.trans H; with_reducible exact H2_) | with_reducible exact H | (rw [hy112]; exact H) | exact H
    have Ny112 := Aside0.mk hy112
    clear hy112
    obtain rfl := Option.some.inj H
    have hnil := fun (W : World) (A : Option Addr) (n c n' c' : Nat) => Lib.run_eql_slice_nil (P := Try.prog) W 22 5 A n c n' c' Try.underlying22
    rcases A0 with _ | ad0
    · obtain rfl : l0 = [] := by
        cases l0 with
        | nil => rfl
        | cons x xs =>
          obtain ⟨_, e0, _⟩ := HR0.out.2.2 (by simp)
          cases e0
      obtain rfl : y112 = [] := by rw [Ny112.out, Ny109.out]; rfl
      go_enter Try.func50, Try.ntmps50
      go_wp2
      go_ret
      exact ⟨_, rfl, Kd.R_nil _ _ _ _ _, HB.out⟩
    go_enter Try.func50, Try.ntmps50
    go_wp2_with (first | ((with_reducible refine gate_dst (N := 5) rfl ?_); refine Kd.R_lit (Kd.int .u8) _ 5 ?hg (N := 5) ?hd (xs := ([] : List Int)) (inner := []) (ok := fun _ => True) (okp := fun _ => True) ?hr ?hp (fun _ hk => hk) trivial (Below.refl _ _) (Nat.le_refl _) (by simp) ?_; (case hd => rfl); (case hg => rfl); (case hr => first | (go_simp; done) | (go_simp; rfl)); (case hp => exact (Reps.none _ _)); intro v110 w3 ho4 hb hg_ hnew_; clear hg_ hnew_; (first | rw [← Ny109.out] at ho4 | (simp only [Int.reduceToNat] at ho4; rw [← Ny109.out] at ho4)); have n0_ := Aside0.mk (Kd.R_lower ho4 (below_size (by repeat (first | (with_reducible first | exact HB.out | apply below_alloc | apply pw_below_drewN | apply below_drew1) | exact HB.out)))); have n1_ := Aside0.mk (below_step (by repeat (first | (with_reducible first | exact HB.out | apply below_alloc | apply pw_below_drewN | apply below_drew1) | exact HB.out)) hb); clear HB; have HO111 := n0_; have HB := n1_; clear n0_ n1_; clear hb ho4) | ((with_reducible refine gate_builtin (b := .append) (xs := #[.tmp 5, .tmp 6]) rfl ?_); at_builtin; refine Kd.R_append_rows (Kd.int .u8) (w0 := w) w.heap.size rfl (.tmp 5) (.tmp 6) 22 5 (.int .u8 0) 1 rfl Try.underlying22 info5 rfl (by decide) (by omega) v110 y109 l0 _ _ _ (fun _ => True) (fun _ => False) rfl rfl ?aO ?aR (fun _ _ h => h) (fun _ h => h.elim) ?aF ?aB ?aS ?aL ?_; (case aR => repeat (first | exact (Kd.C_below HR0.out HB.out) | (with_reducible refine Kd.C_alloc ?_ _) | (with_reducible refine Kd.C_drewN ?_ _) | (with_reducible refine Kd.C_drew ?_))); (case aB => exact (by repeat (first | (with_reducible first | exact HB.out | apply below_alloc | apply pw_below_drewN | apply below_drew1) | exact HB.out))); (case aF => exact (fun _ _ => trivial)); (case aO => exact (by (with_reducible repeat (first | apply Kd.R_alloc | apply Kd.R_drewN | apply Kd.R_drew)); exact HO111.out)); (case aS => exact (below_size (by repeat (first | (with_reducible first | exact HB.out | apply below_alloc | apply pw_below_drewN | apply below_drew1) | exact HB.out)))); (case aL => have := LMc2.out; omega); intro v113 w5 ho hb hg hat; rw [← Ny112.out] at ho; have n0_ := Aside0.mk (hb); have n1_ := Aside0.mk (ho); clear HB; clear HO111; have HB := n0_; have HO114 := n1_; clear n0_ n1_; clear ho hb hg hat))
    go_ret
    exact ⟨_, by first | rfl | (simp [errW_none, errW_some] <;> rfl) | (simp [*, errW_none, errW_some] <;> rfl), by (with_reducible repeat (first | apply Kd.R_alloc | apply Kd.R_drewN | apply Kd.R_drew)); exact HO114.out, by repeat (first | (with_reducible first | exact HB.out | apply below_alloc | apply pw_below_drewN | apply below_drew1) | exact HB.out)⟩
  · rw [if_neg c2] at H
    exact absurd H (by simp)

end Go.Proofs.Ytbphmpncajfaiaa.Py
-- PRINTED by print.py (a twelfth state) out of the translation. Not trusted: Lean checks it.
namespace Go.Proofs.Ytbphmpncajfaiaa.Py
open Go.RowKit Go.Proofs.YtbphmpncajfaiaaW.PrintWords Go.Proofs.YtbphmpncajfaiaaW.PrintLast Go.Proofs.YtbphmpncajfaiaaW.PrintMore
attribute [local go_sem] max2_int min2_int max_two min_two max_three min_three max_four min_four   -- for this text's walks alone
set_option linter.unusedVariables false
set_option linter.unusedSimpArgs false

/-! ### wire_Put: function 19 -/
def wire_Put.f (k : Nat) (l0 : List Int) (l1 : List Int) : Option (List Int) := (slices_Clone_byte_byte.f l0).bind fun t115 => ((wire_put.f k t115 l1).bind fun t118 => (some t118))
theorem wire_Put.mono : ∀ a0 a1 k, LeO (wire_Put.f k a0 a1) (wire_Put.f (k + 1) a0 a1) := by
  intro a0 a1 k
  unfold wire_Put.f
  repeat' first
      | (with_reducible exact wire_put.mono _ _ _)
      | (with_reducible exact LeO.refl _)
      | (with_reducible exact LeO.none _)
      | (with_reducible refine LeO.ite ?_ ?_)
      | (with_reducible refine LeO.bind ?_ (fun _ => ?_))
      | exact wire_put.mono _ _ _
      | exact LeO.none _
      | refine LeO.ite ?_ ?_
      | refine LeO.bind ?_ (fun _ => ?_)
set_option maxHeartbeats 8000000 in
set_option maxRecDepth 100000 in
theorem wire_Put.calls (k : Nat) (A0 : Option Addr) (c0 : Nat) (l0 : List Int) (A1 : Option Addr) (c1 : Nat) (l1 : List Int) (r : List Int) (w : World) (hr0 : Kd.C (Kd.int .u8) w A0 l0.length l0) (hc0 : l0.length ≤ c0) (hr1 : Kd.C (Kd.int .i64) w A1 l1.length l1) (hc1 : l1.length ≤ c1) (h : wire_Put.f k l0 l1 = some r) :
    Calls Try.prog 19 #[.slice A0 l0.length c0, .slice A1 l1.length c1] w fun e w' => ∃ v0_ : Value, e = .returned (v0_) ∧ Kd.R (Kd.int .u8) 5 w' w.heap.size (fun _ => True) v0_ r ∧ Below w.heap.size w w' := by
  have HR0 := Aside0.mk hr0
  have HC0 := Aside0.mk hc0
  clear hr0 hc0
  have HR1 := Aside0.mk hr1
  have HC1 := Aside0.mk hc1
  clear hr1 hc1
  have HB := Aside0.mk (Below.refl w.heap.size w)
  have H : ((slices_Clone_byte_byte.f l0).bind fun t115 => ((wire_put.f k t115 l1).bind fun t118 => (some t118))) = some r := h
  clear h
  replace H := Option.bind_eq_some_iff.mp H
  obtain ⟨t115, A30, H⟩ := H
  replace H : ((wire_put.f k t115 l1).bind fun t118 => (some t118)) = some r := H
  have A3 := Aside0.mk A30
  clear A30
  replace H := Option.bind_eq_some_iff.mp H
  obtain ⟨t118, A40, H⟩ := H
  replace H : (some t118) = some r := H
  have A4 := Aside0.mk A40
  clear A40
  obtain rfl := Option.some.inj H
  go_enter Try.func19, Try.ntmps19
  go_wp2_with (first | ((with_reducible refine gate_callee (f := 50) rfl ?_); refine goesL_ (some 6) rfl rfl Try.func50 (by kernel_rfl) rfl #[.slice A0 l0.length c0] rfl (by (try simp only [List.map_toArray, List.map_cons, List.map_nil]); first | done | rfl | (simp only [List.length_drop, List.length_take]; rfl)) ?_; (with_reducible refine (slices_Clone_byte_byte.calls _ _ l0 t115 _ ?side1 ?side2 A3.out).mono ?_); (case side1 => repeat (first | exact HR0.out | (with_reducible refine Kd.C_alloc ?_ _) | (with_reducible refine Kd.C_drewN ?_ _) | (with_reducible refine Kd.C_drew ?_))); (case side2 => exact HC0.out); rintro e w5 ⟨v116, rfl, ho0, hb⟩; refine ⟨_, rfl, ?_⟩; have n0_ := Aside0.mk (Kd.R_lower ho0 (below_size (by repeat (first | (with_reducible first | exact HB.out | apply below_alloc | apply pw_below_drewN | apply below_drew1) | exact HB.out)))); have n1_ := Aside0.mk (below_step (by repeat (first | (with_reducible first | exact HB.out | apply below_alloc | apply pw_below_drewN | apply below_drew1) | exact HB.out)) hb); clear HB; have HO117 := n0_; have HB := n1_; clear n0_ n1_; (try clear hb); (try clear hb2); (try clear hk); (try clear hi); (try clear ho0); obtain ⟨Ao6, co6, eo6⟩ := Kd.R_slice HO117.out; subst eo6) | ((with_reducible refine gate_callee (f := 49) rfl ?_); refine goesL_ (some 8) rfl rfl Try.func49 (by kernel_rfl) rfl #[.slice Ao6 t115.length co6, .slice A1 l1.length c1] rfl (by (try simp only [List.map_toArray, List.map_cons, List.map_nil]); first | done | rfl | (simp only [List.length_drop, List.length_take]; rfl)) ?_; (with_reducible refine (wire_put.calls k (fun k_ => some k_ = (.slice Ao6 t115.length co6 : Value).ownBlock) (.slice Ao6 t115.length co6) t115 _ _ l1 t118 w _ ?side1 ?side2 ?side3 ?side4 A4.out).mono ?_); (case side1 => repeat (first | (with_reducible first | exact HB.out | apply below_alloc | apply pw_below_drewN | apply below_drew1) | exact HB.out)); (case side2 => exact Kd.R_tight rfl HO117.out); (case side3 => exact Kd.C_kept_came (Kd.heap_int .i64) HR1.out (by repeat (first | (with_reducible first | exact HB.out | apply below_alloc | apply pw_below_drewN | apply below_drew1) | exact HB.out)) (fun k_ hs_ => (fun e_ => Kd.R_base HO117.out k_ e_.symm) hs_)); (case side4 => exact HC1.out); rintro e w7 ⟨v119, rfl, ho0, hb, hkp⟩; refine ⟨_, rfl, ?_⟩; have n0_ := Aside0.mk (Kd.R_mono (ok' := fun k_ => True) ho0 (fun k_ hk_ => trivial)); have n1_ := Aside0.mk (hb); clear HB; clear HO117; have HO120 := n0_; have HB := n1_; clear n0_ n1_; (try clear hb); (try clear hkp); (try clear ho0)))
  go_ret
  exact ⟨_, by first | rfl | (simp [errW_none, errW_some] <;> rfl) | (simp [*, errW_none, errW_some] <;> rfl), by (with_reducible repeat (first | apply Kd.R_alloc | apply Kd.R_drewN | apply Kd.R_drew)); exact HO120.out, by repeat (first | (with_reducible first | exact HB.out | apply below_alloc | apply pw_below_drewN | apply below_drew1) | exact HB.out)⟩

end Go.Proofs.Ytbphmpncajfaiaa.Py
/- Words of this session's own: make with a capacity of its own; rows that are kept. -/
namespace Go.Proofs.Ytbphmpncajfaiaa.K
set_option linter.unusedVariables false
set_option linter.unusedSimpArgs false
open Go.RowKit Go.Proofs.YtbphmpncajfaiaaW.PrintWords Go.Proofs.YtbphmpncajfaiaaW.PrintLast Go.Proofs.YtbphmpncajfaiaaW.PrintMore

section
variable {P : Program} {ops : Array Oper} {rest : List Oper} {o : Oper} {a : Act} {Q : Exit → Act → World → Prop}
variable {α : Type}
/-- make([]T, l, c): l elements z0; there is room for c. -/
theorem R_make_cap (d : Kd α) {w0 W : World} (base e : Nat) (hgd : o.guard = none) {N : Tmp} (hd : o.dst = some N) (t : TypeId) (x y : Operand) (ho : o.op = .makeSlice t x y) (l n : Int) (hx : a.eval x = .int .i64 l) (hy : a.eval y = .int .i64 n)
    (ht : P.underlying t = some (.slice e)) (z : Value) (bytes : Nat) (hinfo : (P.info? e).map (fun i => (i.zero, i.size, i.bytes)) = some (some z, d.sz, bytes)) (hz : z.cells.size = d.sz) (hs0 : 0 < d.sz) (hb0 : 0 < bytes)
    (z0 : α) {ok okp : Nat → Prop} (hzero : d.M W base okp z0 z.cells.toList) (hok : ∀ k, okp k → ok k) (hfresh : ok W.heap.size) (hl0 : 0 ≤ l) (hln : l ≤ n) (hl : n.toNat * bytes ≤ 281474976710656) (HB : Below base w0 W) (hbase : base ≤ W.heap.size)
    (h : ∀ w1, d.R e w1 base ok (.slice (some ⟨W.heap.size, 0, none⟩) l.toNat n.toNat) (List.replicate l.toNat z0) → Below base w0 w1 → W.grownBy w1 none → wpList P ops Q rest (a.put o.dst (.slice (some ⟨W.heap.size, 0, none⟩) l.toNat n.toNat)) w1) : wpList P ops Q (o :: rest) a W := by
  obtain ⟨m, rfl⟩ := Int.eq_ofNat_of_zero_le (Int.le_trans hl0 hln)
  simp only [Int.toNat_natCast] at hl h
  obtain ⟨i0, hi, hzz⟩ := Option.map_eq_some_iff.1 hinfo
  simp only [Prod.mk.injEq] at hzz
  obtain ⟨hz0, hz1, hz2⟩ := hzz
  have hm : m ≤ 281474976710656 := Nat.le_trans (Nat.le_mul_of_pos_right _ hb0) hl
  have hr := run_make (P := P) W t e i0 z ht hi hz0 .i64 .i64 l (m : Int) hl0 (by omega)
    (by
      have h3 : ((i0.bytes * m : Nat) : Int) ≤ 281474976710656 := by rw [hz2, Nat.mul_comm]; omega
      rwa [Int.natCast_mul] at h3) (by omega)
  simp only [Int.toNat_natCast] at hr
  rw [hz1] at hr
  have hrow : d.R e (W.alloc (.cells (madeCells z.cells (m * d.sz)) e)) base ok (.slice (some ⟨W.heap.size, 0, none⟩) m m) (List.replicate m z0) := by
    refine ⟨fun k hk => ?_, (madeCells z.cells (m * d.sz)).toList, ?_, ?_⟩
    · have : W.heap.size = k := by simpa [Value.ownBlock] using hk
      subst this
      exact hfresh
    · have h2 := World.ownsRow_lit (base := base) (e := e) (size := d.sz) W (madeCells z.cells (m * d.sz)) m hbase (by unfold maxLen; omega) (by simp [size_madeCells])
      simpa using h2
    · refine (Kd.reps_made hz hs0 hzero m).imp_ (fun p c hp => d.M_mono (fun k hk => ⟨hok k hk.1, fun he => ?_⟩) (Kd.M_below (d.M_bound hp) (below_alloc (Below.refl _ _) _)))
      have h3 : k = W.heap.size := by simpa [Value.ownBlock] using he
      have := hk.2.2.1
      omega
  have hlm : l.toNat ≤ m := by omega
  refine Kd.event_run hgd (v := .slice (some ⟨W.heap.size, 0, none⟩) l.toNat m) (w1 := W.alloc (.cells (madeCells z.cells (m * d.sz)) e)) (by simp [execOp, ho, hx, hy, hr]) (h _ ?_ (HB.alloc hbase _) (World.grownBy_alloc W _ none))
  have h4 := Kd.R_take hrow (m := l.toNat) (by simpa using hlm)
  rwa [List.take_replicate, Nat.min_eq_left hlm] at h4
end
theorem R_form {α : Type} {d : Kd α} {e n c : Nat} {w : World} {base : Nat} {ok : Nat → Prop} {A : Option Addr} {xs : List α} (h : d.R e w base ok (.slice A n c) xs) (hn : 0 < xs.length) :
    ∃ g, A = some ⟨g, 0, none⟩ ∧ base ≤ g ∧ g < w.heap.size ∧ n = xs.length := by
  obtain ⟨_, inner, ho, _⟩ := h
  rcases ho.2 with ⟨he, h0⟩ | ⟨g, cap, cur, he, hb, hh, _⟩
  · omega
  · injection he with ha hn' _
    subst ha
    exact ⟨g, rfl, hb, (Array.getElem?_eq_some_iff.1 hh).1, hn'⟩
theorem R_put' {α : Type} {enc : α → Value} {h1 : ∀ x, (enc x).oneCell' = true} {e n base g cap : Nat} {W : World} {ok : Nat → Prop} {xs : List α} (h : (Kd.scalar enc h1).R e W base ok (.slice (some ⟨g, 0, none⟩) n cap) xs) (j : Nat) (x : α) :
    (Kd.scalar enc h1).R e (W.setCell ⟨g, j, none⟩ (enc x)) base ok (.slice (some ⟨g, 0, none⟩) n cap) (xs.set j x) := by
  obtain ⟨A, c, he⟩ := Kd.R_slice h
  injection he with ha hn hc
  subst hn
  exact (Kd.R_put h (j : Int) x).1
/-! ### '[]byte("..")' of a constant: the row is marked behind its last cell; its cells read as before -/
section
variable {P : Program} {ops : Array Oper} {rest : List Oper} {o : Oper} {a : Act} {Q : Exit → Act → World → Prop}
theorem freeze_heap (W : World) (g n : Nat) (k : Nat) (hk : k ≠ g) : (W.freeze ⟨g, n, none⟩ 1).heap[k]? = W.heap[k]? := by
  unfold World.freeze
  rw [if_neg (by decide)]
  simp only [Array.getElem?_modify, if_neg (Ne.symm hk)]
theorem freeze_cell (W : World) (g n : Nat) (p : Addr) : (W.freeze ⟨g, n, none⟩ 1).cell? p = W.cell? p := by
  unfold World.freeze World.cell?
  rw [if_neg (by decide)]
  simp only [Array.getElem?_modify]
  by_cases h : g = p.block
  · subst h
    rw [if_pos rfl]
    cases hh : W.heap[p.block]? with
    | none => rfl
    | some ob => cases ob <;> rfl
  · rw [if_neg h]
theorem freeze_grown (W : World) (g n : Nat) : W.grownBy (W.freeze ⟨g, n, none⟩ 1) (some g) :=
  ⟨by unfold World.freeze; rw [if_neg (by decide)], by unfold World.freeze; rw [if_neg (by decide)], by unfold World.freeze; rw [if_neg (by decide)], by unfold World.freeze; rw [if_neg (by decide)]; simp, fun i _ hi => freeze_heap W g n i (fun e => hi (by rw [e]))⟩
theorem mark_event {w0 W : World} (base e t : Nat) (hgd : o.guard = none) {N : Tmp} (hd : o.dst = some N) (x : Operand) (ho : o.op = .convert t t x) {v : Value} (hx : a.eval x = v)
    (ht : P.underlying t = some (.slice e)) (he : P.underlying e = some (.int .u8)) {xs : List Int} {ok : Nat → Prop} (hr : (Kd.int .u8).R e W base ok v xs) (hne : 0 < xs.length) (HB : Below base w0 W) (hbase : base ≤ W.heap.size)
    (h : ∀ w1, (∃ A c, v = .slice A xs.length c ∧ xs.length ≤ c ∧ (Kd.int .u8).C w1 A xs.length xs) → Below base w0 w1 → W.grownBy w1 v.ownBlock → wpList P ops Q rest (a.put o.dst v) w1) : wpList P ops Q (o :: rest) a W := by
  obtain ⟨A, c, rfl, hlc, hC⟩ := Kd.R_reads hr
  obtain ⟨g, rfl, hbg, hgl, _⟩ := R_form hr hne
  obtain ⟨_, inner, hown, _⟩ := hr
  rcases hown.2 with ⟨he', h0⟩ | ⟨g', cap, cur, hv, _, hh, _⟩
  · omega
  injection hv with ha _ _
  injection ha with ha
  injection ha with hg' _ _
  subst hg'
  have hsh : W.shape? g = some (e, cur.size) := by unfold World.shape?; rw [hh]
  have hrun : (convert t t (.slice (some ⟨g, 0, none⟩) xs.length c)).run P W = .ok (.slice (some ⟨g, 0, none⟩) xs.length c) (W.freeze ⟨g, cur.size, none⟩ 1) := by
    simp [convert, run_underlying ht, run_underlying he, markStringish, hsh]
  refine Kd.event_run hgd (v := .slice (some ⟨g, 0, none⟩) xs.length c) (w1 := W.freeze ⟨g, cur.size, none⟩ 1) (by simp [execOp, ho, hx, hrun]) (h _ ⟨_, _, rfl, hlc, ?_⟩ ?_ ?_)
  · refine ⟨hC.1, hC.2.1, fun hn => ?_⟩
    obtain ⟨ad, e1, hc⟩ := hC.2.2 hn
    refine ⟨ad, e1, fun j p hj => ?_⟩
    obtain ⟨cs, h1, h2, h3⟩ := hc j p hj
    exact ⟨cs, h1, h2, fun i u hu => by rw [freeze_cell]; exact h3 i u hu⟩
  · exact pw_below_grown HB (some g) hbase (freeze_grown W g cur.size) (fun k hk => by injection hk with hk; omega)
  · exact freeze_grown W g cur.size
theorem grown_below {W w1 : World} (hg : W.grownBy w1 none) : Below W.heap.size W w1 :=
  ⟨hg.os, hg.tape, hg.output, hg.size, fun k hk => hg.block k hk (by simp)⟩
variable {α : Type}
/-- A literal whose elements lead to whatever memory: a row that is read. -/
theorem C_lit (d : Kd α) {W : World} (e : Nat) (hgd : o.guard = none) {N : Tmp} (_hd : o.dst = some N) {xs : List α} {inner : List Value}
    (hrun : (execOp a.eval o).run P W = .ok (.value (.slice (some ⟨W.heap.size, 0, none⟩) xs.length xs.length)) (W.alloc (.cells inner.toArray e)))
    (hrep : Reps (d.K W) d.sz xs inner) (hm : xs.length ≤ 9223372036854775807)
    (h : ∀ w1 A c, d.C w1 A xs.length xs → xs.length ≤ c → Below W.heap.size W w1 → wpList P ops Q rest (a.put o.dst (.slice A xs.length c)) w1) : wpList P ops Q (o :: rest) a W := by
  have hrep' : Reps (d.K (W.alloc (.cells inner.toArray e))) d.sz xs inner := hrep.imp_ (fun p c hp => d.K_below (below_alloc (Below.refl _ _) _) hp)
  refine Kd.event_run hgd hrun (h _ _ _ ?_ (Nat.le_refl _) (below_alloc (Below.refl _ _) _))
  have h2 := World.ownsRow_lit (base := W.heap.size) (e := e) (size := d.sz) W inner.toArray xs.length (Nat.le_refl _) (by simpa [maxLen] using hm) (by simpa using hrep.1)
  obtain ⟨A, c, he, hr⟩ := own_reads_row (by simpa using h2) hrep' rfl
  injection he with h3 _ _
  subst h3
  exact hr
end
end Go.Proofs.Ytbphmpncajfaiaa.K
-- PRINTED by print.py (a twelfth state) out of the translation. Not trusted: Lean checks it.
namespace Go.Proofs.Ytbphmpncajfaiaa.Py
open Go.RowKit Go.Proofs.YtbphmpncajfaiaaW.PrintWords Go.Proofs.YtbphmpncajfaiaaW.PrintLast Go.Proofs.YtbphmpncajfaiaaW.PrintMore
attribute [local go_sem] max2_int min2_int max_two min_two max_three min_three max_four min_four   -- for this text's walks alone
set_option linter.unusedVariables false
set_option linter.unusedSimpArgs false

/-! ### wire_Check: function 47 -/
mutual
def wire_Check.l0 : Nat → Int → List (List Int) → Int → Int → Option (Int)
  | 0, _, _, _, _ => none
  | k + 1, x3, x9, x10, x11 => if x11 < x10 then (if 0 ≤ x11 then (if x11 < (x9.length : Int) then (wire_Check.l1 k x3 x9 x10 x11 (rd_L2 x9 x11) ((rd_L2 x9 x11).length : Int) 0) else (none)) else (none)) else (some (Go.bits .xor .u32 4294967295 x3))
def wire_Check.l1 : Nat → Int → List (List Int) → Int → Int → List Int → Int → Int → Option (Int)
  | 0, _, _, _, _, _, _, _ => none
  | k + 1, x3, x9, x10, x11, x15, x16, x17 => if x17 < x16 then (if 0 ≤ x17 then (if x17 < (x15.length : Int) then (wire_Check.l2 k (Go.bits .xor .u32 x3 ((rd x15 x17) % 4294967296)) x9 x10 x11 x15 x16 x17 0) else (none)) else (none)) else (wire_Check.l0 k x3 x9 x10 (wrap64 (x11 + 1)))
def wire_Check.l2 : Nat → Int → List (List Int) → Int → Int → List Int → Int → Int → Int → Option (Int)
  | 0, _, _, _, _, _, _, _, _ => none
  | k + 1, x3, x9, x10, x11, x15, x16, x17, x25 => if x25 < 8 then (if (Go.bits .and .u32 x3 1) = 1 then (wire_Check.l2 k (Go.bits .xor .u32 (x3 / 2) 3988292384) x9 x10 x11 x15 x16 x17 (wrap64 (x25 + 1))) else (wire_Check.l2 k (x3 / 2) x9 x10 x11 x15 x16 x17 (wrap64 (x25 + 1)))) else (wire_Check.l1 k x3 x9 x10 x11 x15 x16 (wrap64 (x17 + 1)))
end
def wire_Check.f (k : Nat) (l0 : List (List Int)) : Option (Int) := wire_Check.l0 k 4294967295 l0 (l0.length : Int) 0
theorem wire_Check.mono_l : ∀ k, (∀ y0 y1 y2 y3, LeO (wire_Check.l0 k y0 y1 y2 y3) (wire_Check.l0 (k + 1) y0 y1 y2 y3)) ∧ (∀ y0 y1 y2 y3 y4 y5 y6, LeO (wire_Check.l1 k y0 y1 y2 y3 y4 y5 y6) (wire_Check.l1 (k + 1) y0 y1 y2 y3 y4 y5 y6)) ∧ (∀ y0 y1 y2 y3 y4 y5 y6 y7, LeO (wire_Check.l2 k y0 y1 y2 y3 y4 y5 y6 y7) (wire_Check.l2 (k + 1) y0 y1 y2 y3 y4 y5 y6 y7))
  | 0 => ⟨fun _ _ _ _ r h => by simp [wire_Check.l0] at h, fun _ _ _ _ _ _ _ r h => by simp [wire_Check.l1] at h, fun _ _ _ _ _ _ _ _ r h => by simp [wire_Check.l2] at h⟩
  | k + 1 => by
    obtain ⟨ih0, ih1, ih2⟩ := wire_Check.mono_l k
    refine ⟨?_, ?_, ?_⟩
    · intro y0 y1 y2 y3
      unfold wire_Check.l0
      repeat' first
      | (with_reducible exact ih0 _ _ _ _)
      | (with_reducible exact ih1 _ _ _ _ _ _ _)
      | (with_reducible exact ih2 _ _ _ _ _ _ _ _)
      | (with_reducible exact LeO.refl _)
      | (with_reducible exact LeO.none _)
      | (with_reducible refine LeO.ite ?_ ?_)
      | (with_reducible refine LeO.bind ?_ (fun _ => ?_))
      | exact ih0 _ _ _ _
      | exact ih1 _ _ _ _ _ _ _
      | exact ih2 _ _ _ _ _ _ _ _
      | exact LeO.none _
      | refine LeO.ite ?_ ?_
      | refine LeO.bind ?_ (fun _ => ?_)
    · intro y0 y1 y2 y3 y4 y5 y6
      unfold wire_Check.l1
      repeat' first
      | (with_reducible exact ih0 _ _ _ _)
      | (with_reducible exact ih1 _ _ _ _ _ _ _)
      | (with_reducible exact ih2 _ _ _ _ _ _ _ _)
      | (with_reducible exact LeO.refl _)
      | (with_reducible exact LeO.none _)
      | (with_reducible refine LeO.ite ?_ ?_)
      | (with_reducible refine LeO.bind ?_ (fun _ => ?_))
      | exact ih0 _ _ _ _
      | exact ih1 _ _ _ _ _ _ _
      | exact ih2 _ _ _ _ _ _ _ _
      | exact LeO.none _
      | refine LeO.ite ?_ ?_
      | refine LeO.bind ?_ (fun _ => ?_)
    · intro y0 y1 y2 y3 y4 y5 y6 y7
      unfold wire_Check.l2
      repeat' first
      | (with_reducible exact ih0 _ _ _ _)
      | (with_reducible exact ih1 _ _ _ _ _ _ _)
      | (with_reducible exact ih2 _ _ _ _ _ _ _ _)
      | (with_reducible exact LeO.refl _)
      | (with_reducible exact LeO.none _)
      | (with_reducible refine LeO.ite ?_ ?_)
      | (with_reducible refine LeO.bind ?_ (fun _ => ?_))
      | exact ih0 _ _ _ _
      | exact ih1 _ _ _ _ _ _ _
      | exact ih2 _ _ _ _ _ _ _ _
      | exact LeO.none _
      | refine LeO.ite ?_ ?_
      | refine LeO.bind ?_ (fun _ => ?_)
theorem wire_Check.mono : ∀ a0 k, LeO (wire_Check.f k a0) (wire_Check.f (k + 1) a0) := by
  intro a0 k
  obtain ⟨ih0, ih1, ih2⟩ := wire_Check.mono_l k
  unfold wire_Check.f
  repeat' first
      | (with_reducible exact ih0 _ _ _ _)
      | (with_reducible exact ih1 _ _ _ _ _ _ _)
      | (with_reducible exact ih2 _ _ _ _ _ _ _ _)
      | (with_reducible exact LeO.refl _)
      | (with_reducible exact LeO.none _)
      | (with_reducible refine LeO.ite ?_ ?_)
      | (with_reducible refine LeO.bind ?_ (fun _ => ?_))
      | exact ih0 _ _ _ _
      | exact ih1 _ _ _ _ _ _ _
      | exact ih2 _ _ _ _ _ _ _ _
      | exact LeO.none _
      | refine LeO.ite ?_ ?_
      | refine LeO.bind ?_ (fun _ => ?_)
set_option maxHeartbeats 8000000 in
set_option maxRecDepth 100000 in
theorem wire_Check.calls (k : Nat) (A0 : Option Addr) (c0 : Nat) (l0 : List (List Int)) (r : Int) (w : World) (hr0 : Kd.C (Kd.slice 5 (Kd.int .u8)) w A0 l0.length l0) (hc0 : l0.length ≤ c0) (h : wire_Check.f k l0 = some r) :
    Calls Try.prog 47 #[.slice A0 l0.length c0] w fun e w' => e = .returned (.int .u32 r) ∧ Drawn0 w w' := by
  have HR0 := Aside0.mk hr0
  have HC0 := Aside0.mk hc0
  clear hr0 hc0
  have H : (wire_Check.l0 k 4294967295 l0 (l0.length : Int) 0) = some r := h
  clear h
  have H' := Aside0.mk H
  clear H
  go_enter Try.func47, Try.ntmps47
  go_wp2
  go_loopg [3, 11] k (fun kq v3 v11 w' => ∃ (x3_1 : Int) (x11_1 : Int), v3 = .int .u32 x3_1 ∧ v11 = .int .i64 x11_1 ∧ Aside0 (wire_Check.l0 kq x3_1 l0 (l0.length : Int) x11_1 = some r) ∧ Aside0 (kq ≤ k) ∧ Drawn0 w w')
  case atStart => exact ⟨(4294967295), (0), (by first | rfl | (simp; done) | (simp [*]; done)), (by first | rfl | (simp; done) | (simp [*]; done)), H', ⟨Nat.le_refl _⟩, by repeat (first | exact Drawn0.refl _ | apply Drawn0.step)⟩
  case round =>
    clear H'
    obtain ⟨x3_1, x11_1, rfl, rfl, HA, HK1, ⟨m1, rfl⟩⟩ := hrel
    cases gk with
    | zero => exact absurd HA.out (by simp [wire_Check.l0])
    | succ k1 =>
      have H := HA.out
      clear HA
      simp only [wire_Check.l0] at H
      by_cases c2 : x11_1 < (l0.length : Int)
      · rw [if_pos c2] at H
        have c2b0 : decide (x11_1 < (l0.length : Int)) = true := decide_eq_true c2
        clear c2
        by_cases c3 : 0 ≤ x11_1
        · rw [if_pos c3] at H
          have c3b0 : decide (0 ≤ x11_1) = true := decide_eq_true c3
          clear c3
          by_cases c4 : x11_1 < (l0.length : Int)
          · rw [if_pos c4] at H
            have c4b0 : decide (x11_1 < (l0.length : Int)) = true := decide_eq_true c4
            clear c4
            have H' := Aside0.mk H
            clear H
            have p121 : 0 ≤ (x11_1 : Int) := of_decide_eq_true (by first | (with_reducible assumption) | assumption)
            have q121 : x11_1 < (l0.length : Int) := of_decide_eq_true (by first | (with_reducible assumption) | assumption)
            obtain ⟨ad121, A121_0, c121_0, e121, hx121_0, hl121_0, hi121_0⟩ := at_L2 HR0.out x11_1 p121 q121
            cases e121
            have HR121_0 := Aside0.mk hi121_0
            have HC121_0 := Aside0.mk hl121_0
            clear hi121_0 hl121_0
            replace p121 := eq_true p121
            replace q121 := eq_true q121
            go_wp2
            go_loopg [3, 17] k1 (fun kq v3 v17 w' => ∃ (x3_2 : Int) (x17_2 : Int), v3 = .int .u32 x3_2 ∧ v17 = .int .i64 x17_2 ∧ Aside0 (wire_Check.l1 kq x3_2 l0 (l0.length : Int) x11_1 (rd_L2 l0 x11_1) ((rd_L2 l0 x11_1).length : Int) x17_2 = some r) ∧ Aside0 (kq ≤ k1) ∧ Drawn0 w w')
            case atStart => exact ⟨(x3_1), (0), (by first | rfl | (simp; done) | (simp [*]; done)), (by first | rfl | (simp; done) | (simp [*]; done)), H', ⟨Nat.le_refl _⟩, by repeat (first | exact Drawn0.refl _ | apply Drawn0.step)⟩
            case round =>
              clear H'
              try clear c1
              try clear p1
              try clear q1
              try clear hx1
              try clear c2
              try clear c2b0
              try clear p2
              try clear c3
              try clear c3b0
              try clear c4
              try clear c4b0
              try clear hx121_0
              try clear p121
              try clear q121
              obtain ⟨x3_2, x17_2, rfl, rfl, HA, HK2, ⟨m2, rfl⟩⟩ := hrel
              cases gk with
              | zero => exact absurd HA.out (by simp [wire_Check.l1])
              | succ k2 =>
                have H := HA.out
                clear HA
                simp only [wire_Check.l1] at H
                by_cases c5 : x17_2 < ((rd_L2 l0 x11_1).length : Int)
                · rw [if_pos c5] at H
                  have c5b0 : decide (x17_2 < ((rd_L2 l0 x11_1).length : Int)) = true := decide_eq_true c5
                  clear c5
                  by_cases c6 : 0 ≤ x17_2
                  · rw [if_pos c6] at H
                    have c6b0 : decide (0 ≤ x17_2) = true := decide_eq_true c6
                    clear c6
                    by_cases c7 : x17_2 < ((rd_L2 l0 x11_1).length : Int)
                    · rw [if_pos c7] at H
                      have c7b0 : decide (x17_2 < ((rd_L2 l0 x11_1).length : Int)) = true := decide_eq_true c7
                      clear c7
                      have H' := Aside0.mk H
                      clear H
                      have p122 : 0 ≤ (x17_2 : Int) := of_decide_eq_true (by first | (with_reducible assumption) | assumption)
                      have q122 : x17_2 < ((rd_L2 l0 x11_1).length : Int) := of_decide_eq_true (by first | (with_reducible assumption) | assumption)
                      obtain ⟨ad122, e122, hx122_0⟩ := Kd.at_int HR121_0.out x17_2 p122 q122
                      cases e122
                      replace p122 := eq_true p122
                      replace q122 := eq_true q122
                      go_wp2
                      go_loopg [3, 25] k2 (fun kq v3 v25 w' => ∃ (x3_3 : Int) (x25_3 : Int), v3 = .int .u32 x3_3 ∧ v25 = .int .i64 x25_3 ∧ Aside0 (wire_Check.l2 kq x3_3 l0 (l0.length : Int) x11_1 (rd_L2 l0 x11_1) ((rd_L2 l0 x11_1).length : Int) x17_2 x25_3 = some r) ∧ Aside0 (kq ≤ k2) ∧ Drawn0 w w')
                      case atStart => exact ⟨(Go.bits .xor .u32 x3_2 ((rd (rd_L2 l0 x11_1) x17_2) % 4294967296)), (0), (by first | rfl | (simp; done) | (simp [*]; done)), (by first | rfl | (simp; done) | (simp [*]; done)), H', ⟨Nat.le_refl _⟩, by repeat (first | exact Drawn0.refl _ | apply Drawn0.step)⟩
                      case round =>
                        clear H'
                        try clear c1
                        try clear p1
                        try clear q1
                        try clear hx1
                        try clear c2
                        try clear c2b0
                        try clear p2
                        try clear c3
                        try clear c3b0
                        try clear c4
                        try clear c4b0
                        try clear c5
                        try clear c5b0
                        try clear c6
                        try clear c6b0
                        try clear c7
                        try clear c7b0
                        try clear hx121_0
                        try clear hx122_0
                        try clear p1
                        try clear p121
                        try clear p122
                        try clear p2
                        try clear q1
                        try clear q121
                        try clear q122
                        obtain ⟨x3_3, x25_3, rfl, rfl, HA, HK3, ⟨m3, rfl⟩⟩ := hrel
                        cases gk with
                        | zero => exact absurd HA.out (by simp [wire_Check.l2])
                        | succ k3 =>
                          have H := HA.out
                          clear HA
                          simp only [wire_Check.l2] at H
                          by_cases c8 : x25_3 < 8
                          · rw [if_pos c8] at H
                            have c8b0 : decide (x25_3 < 8) = true := decide_eq_true c8
                            clear c8
                            by_cases c9 : (Go.bits .and .u32 x3_3 1) = 1
                            · rw [if_pos c9] at H
                              have c9b0 : ((Go.bits .and .u32 x3_3 1) == 1) = true := beq_iff_eq.mpr c9
                              have c9b1 : ((Go.bits .and .u32 x3_3 1) != 1) = false := bne_eq_false_iff_eq.mpr c9
                              clear c9
                              have H' := Aside0.mk H
                              clear H
                              go_wp2
                              go_roundg k3
                              case measure => have := HK1.out; have := HK2.out; have := HK3.out; omega
                              case rel => exact ⟨(Go.bits .xor .u32 (x3_3 / 2) 3988292384), (wrap64 (x25_3 + 1)), (by first | rfl | (simp; done) | (simp [*]; done)), (by first | rfl | (simp; done) | (simp [*]; done)), H', ⟨by have := HK1.out; have := HK2.out; have := HK3.out; omega⟩, by repeat (first | exact Drawn0.refl _ | apply Drawn0.step)⟩
                            · rw [if_neg c9] at H
                              have c9b0 : ((Go.bits .and .u32 x3_3 1) == 1) = false := beq_eq_false_iff_ne.mpr c9
                              have c9b1 : ((Go.bits .and .u32 x3_3 1) != 1) = true := bne_iff_ne.mpr c9
                              have H' := Aside0.mk H
                              clear H
                              go_wp2
                              go_roundg k3
                              case measure => have := HK1.out; have := HK2.out; have := HK3.out; omega
                              case rel => exact ⟨(x3_3 / 2), (wrap64 (x25_3 + 1)), (by first | rfl | (simp; done) | (simp [*]; done)), (by first | rfl | (simp; done) | (simp [*]; done)), H', ⟨by have := HK1.out; have := HK2.out; have := HK3.out; omega⟩, by repeat (first | exact Drawn0.refl _ | apply Drawn0.step)⟩
                          · rw [if_neg c8] at H
                            have c8b0 : decide (x25_3 < 8) = false := decide_eq_false c8
                            clear c8
                            have H' := Aside0.mk H
                            clear H
                            go_wp2
                            go_roundg k3
                            case measure => have := HK1.out; have := HK2.out; have := HK3.out; omega
                            case rel => exact ⟨(x3_3), (wrap64 (x17_2 + 1)), (by first | rfl | (simp; done) | (simp [*]; done)), (by first | rfl | (simp; done) | (simp [*]; done)), H', ⟨by have := HK1.out; have := HK2.out; have := HK3.out; omega⟩, by repeat (first | exact Drawn0.refl _ | apply Drawn0.step)⟩
                    · rw [if_neg c7] at H
                      exact absurd H (by simp)
                  · rw [if_neg c6] at H
                    exact absurd H (by simp)
                · rw [if_neg c5] at H
                  have c5b0 : decide (x17_2 < ((rd_L2 l0 x11_1).length : Int)) = false := decide_eq_false c5
                  clear c5
                  have H' := Aside0.mk H
                  clear H
                  go_wp2
                  go_roundg k2
                  case measure => have := HK1.out; have := HK2.out; omega
                  case rel => exact ⟨(x3_2), (wrap64 (x11_1 + 1)), (by first | rfl | (simp; done) | (simp [*]; done)), (by first | rfl | (simp; done) | (simp [*]; done)), H', ⟨by have := HK1.out; have := HK2.out; omega⟩, by repeat (first | exact Drawn0.refl _ | apply Drawn0.step)⟩
          · rw [if_neg c4] at H
            exact absurd H (by simp)
        · rw [if_neg c3] at H
          exact absurd H (by simp)
      · rw [if_neg c2] at H
        have c2b0 : decide (x11_1 < (l0.length : Int)) = false := decide_eq_false c2
        clear c2
        obtain rfl := Option.some.inj H
        go_wp2
        go_ret
        exact ⟨by first | rfl | (simp; done) | (simp [*]; done), by repeat (first | exact Drawn0.refl _ | apply Drawn0.step)⟩

end Go.Proofs.Ytbphmpncajfaiaa.Py
-- begun as a text of the kit's print.py (over a near text), mended by hand
namespace Go.Proofs.Ytbphmpncajfaiaa.Py
open Go.Proofs.Ytbphmpncajfaiaa.K Go.RowKit Go.Proofs.YtbphmpncajfaiaaW.PrintWords Go.Proofs.YtbphmpncajfaiaaW.PrintLast Go.Proofs.YtbphmpncajfaiaaW.PrintMore
attribute [local go_sem] max2_int min2_int max_two min_two max_three min_three max_four min_four   -- for this text's walks alone
set_option linter.unusedVariables false
set_option linter.unusedSimpArgs false

/-! ### wire_Box: function 26 -/
/-- The head of a box ahead of its sum: how many bytes are in it. -/
def boxHead (n : Int) : List Int := ((List.replicate 6 (0 : Int)).set 4 ((n / 256) % 256)).set 5 (n % 256)
/-- The sum in its place. -/
def stamp (l : List Int) (c : Int) : List Int := (((l.set 0 ((c / 16777216) % 256)).set 1 ((c / 65536) % 256)).set 2 ((c / 256) % 256)).set 3 (c % 256)
mutual
def wire_Box.j0 : Nat → Int → List (List Int) → Bool → Option (List Int × Option Int)
  | 0, _, _, _ => none
  | k + 1, x0, x1, x18 => if x18 = true then (some (([] : List Int), some 1)) else (wire_Box.l0 k x0 x1 0 x1 (x1.length : Int) 0)
def wire_Box.l0 : Nat → Int → List (List Int) → Int → List (List Int) → Int → Int → Option (List Int × Option Int)
  | 0, _, _, _, _, _, _ => none
  | k + 1, x0, x1, x6, x20, x21, x22 => if x22 < x21 then (if 0 ≤ x22 then (if x22 < (x20.length : Int) then (if (wrap64 (x6 + ((rd_L2 x20 x22).length : Int))) > (wrap64 (x0 - 6)) then (some (([] : List Int), some 2)) else (if (wrap64 (x6 + ((rd_L2 x20 x22).length : Int))) > 65535 then (some (([] : List Int), some 2)) else (wire_Box.l0 k x0 x1 (wrap64 (x6 + ((rd_L2 x20 x22).length : Int))) x20 x21 (wrap64 (x22 + 1))))) else (none)) else (none)) else (if 6 ≤ x0 then (if x0 ≤ 281474976710656 then (wire_Box.l1 k x0 (boxHead x6) x1 (x1.length : Int) 0) else (none)) else (none))
def wire_Box.l1 : Nat → Int → List Int → List (List Int) → Int → Int → Option (List Int × Option Int)
  | 0, _, _, _, _, _ => none
  | k + 1, x0, x9, x51, x52, x53 => if x53 < x52 then (if 0 ≤ x53 then (if x53 < (x51.length : Int) then (if x9.length + (rd_L2 x51 x53).length < 140737488355328 then (wire_Box.l1 k x0 (x9 ++ (rd_L2 x51 x53)) x51 x52 (wrap64 (x53 + 1))) else (none)) else (none)) else (none)) else (if 0 ≤ (wrap64 (x0 - (x9.length : Int))) then (if x9.length + (wrap64 (x0 - (x9.length : Int)) : Int).toNat < 140737488355328 then ((some (x9 ++ List.replicate (wrap64 (x0 - (x9.length : Int)) : Int).toNat 0 : List Int)).bind fun y131 => (if 4 ≤ (y131.length : Int) then ((wire_Check.f k (([(y131.drop 4)] : List (List Int)))).bind fun t142 => (some (stamp y131 t142, none))) else (none))) else (none)) else (none))
end
def wire_Box.f (k : Nat) (a0 : Int) (l1 : List (List Int)) : Option (List Int × Option Int) := if a0 < 6 then (wire_Box.j0 k a0 l1 true) else (wire_Box.j0 k a0 l1 (decide (a0 > 65536)))
theorem wire_Box.mono_l : ∀ k, (∀ y0 y1 y2, LeO (wire_Box.j0 k y0 y1 y2) (wire_Box.j0 (k + 1) y0 y1 y2)) ∧ (∀ y0 y1 y2 y3 y4 y5, LeO (wire_Box.l0 k y0 y1 y2 y3 y4 y5) (wire_Box.l0 (k + 1) y0 y1 y2 y3 y4 y5)) ∧ (∀ y0 y1 y2 y3 y4, LeO (wire_Box.l1 k y0 y1 y2 y3 y4) (wire_Box.l1 (k + 1) y0 y1 y2 y3 y4))
  | 0 => ⟨fun _ _ _ r h => by simp [wire_Box.j0] at h, fun _ _ _ _ _ _ r h => by simp [wire_Box.l0] at h, fun _ _ _ _ _ r h => by simp [wire_Box.l1] at h⟩
  | k + 1 => by
    obtain ⟨ih0, ih1, ih2⟩ := wire_Box.mono_l k
    refine ⟨?_, ?_, ?_⟩
    · intro y0 y1 y2
      unfold wire_Box.j0
      repeat' first
      | (with_reducible exact ih0 _ _ _)
      | (with_reducible exact ih1 _ _ _ _ _ _)
      | (with_reducible exact ih2 _ _ _ _ _)
      | (with_reducible exact wire_Check.mono _ _)
      | (with_reducible exact LeO.refl _)
      | (with_reducible exact LeO.none _)
      | (with_reducible refine LeO.ite ?_ ?_)
      | (with_reducible refine LeO.bind ?_ (fun _ => ?_))
      | exact ih0 _ _ _
      | exact ih1 _ _ _ _ _ _
      | exact ih2 _ _ _ _ _
      | exact wire_Check.mono _ _
      | exact LeO.none _
      | refine LeO.ite ?_ ?_
      | refine LeO.bind ?_ (fun _ => ?_)
    · intro y0 y1 y2 y3 y4 y5
      unfold wire_Box.l0
      repeat' first
      | (with_reducible exact ih0 _ _ _)
      | (with_reducible exact ih1 _ _ _ _ _ _)
      | (with_reducible exact ih2 _ _ _ _ _)
      | (with_reducible exact wire_Check.mono _ _)
      | (with_reducible exact LeO.refl _)
      | (with_reducible exact LeO.none _)
      | (with_reducible refine LeO.ite ?_ ?_)
      | (with_reducible refine LeO.bind ?_ (fun _ => ?_))
      | exact ih0 _ _ _
      | exact ih1 _ _ _ _ _ _
      | exact ih2 _ _ _ _ _
      | exact wire_Check.mono _ _
      | exact LeO.none _
      | refine LeO.ite ?_ ?_
      | refine LeO.bind ?_ (fun _ => ?_)
    · intro y0 y1 y2 y3 y4
      unfold wire_Box.l1
      repeat' first
      | (with_reducible exact ih0 _ _ _)
      | (with_reducible exact ih1 _ _ _ _ _ _)
      | (with_reducible exact ih2 _ _ _ _ _)
      | (with_reducible exact wire_Check.mono _ _)
      | (with_reducible exact LeO.refl _)
      | (with_reducible exact LeO.none _)
      | (with_reducible refine LeO.ite ?_ ?_)
      | (with_reducible refine LeO.bind ?_ (fun _ => ?_))
      | exact ih0 _ _ _
      | exact ih1 _ _ _ _ _ _
      | exact ih2 _ _ _ _ _
      | exact wire_Check.mono _ _
      | exact LeO.none _
      | refine LeO.ite ?_ ?_
      | refine LeO.bind ?_ (fun _ => ?_)
theorem wire_Box.mono : ∀ a0 a1 k, LeO (wire_Box.f k a0 a1) (wire_Box.f (k + 1) a0 a1) := by
  intro a0 a1 k
  obtain ⟨ih0, ih1, ih2⟩ := wire_Box.mono_l k
  unfold wire_Box.f
  repeat' first
      | (with_reducible exact ih0 _ _ _)
      | (with_reducible exact ih1 _ _ _ _ _ _)
      | (with_reducible exact ih2 _ _ _ _ _)
      | (with_reducible exact wire_Check.mono _ _)
      | (with_reducible exact LeO.refl _)
      | (with_reducible exact LeO.none _)
      | (with_reducible refine LeO.ite ?_ ?_)
      | (with_reducible refine LeO.bind ?_ (fun _ => ?_))
      | exact ih0 _ _ _
      | exact ih1 _ _ _ _ _ _
      | exact ih2 _ _ _ _ _
      | exact wire_Check.mono _ _
      | exact LeO.none _
      | refine LeO.ite ?_ ?_
      | refine LeO.bind ?_ (fun _ => ?_)
set_option maxHeartbeats 8000000 in
set_option maxRecDepth 100000 in
theorem wire_Box.calls (k : Nat) (a0 : Int) (A1 : Option Addr) (c1 : Nat) (l1 : List (List Int)) (r1 : List Int) (r2 : Option Int) (w : World) (hr1 : Kd.C (Kd.slice 5 (Kd.int .u8)) w A1 l1.length l1) (hc1 : l1.length ≤ c1) (h : wire_Box.f k a0 l1 = some (r1, r2)) :
    Calls Try.prog 26 #[.int .i64 a0, .slice A1 l1.length c1] w fun e w' => ∃ v0_ : Value, e = .returned (.tuple #[v0_, errW r2]) ∧ Kd.R (Kd.int .u8) 5 w' w.heap.size (fun _ => True) v0_ r1 ∧ Below w.heap.size w w' := by
  have hu40 := Try.underlying40
  have hu49 := Try.underlying49
  have HR1 := Aside0.mk hr1
  have HC1 := Aside0.mk hc1
  clear hr1 hc1
  have HB := Aside0.mk (Below.refl w.heap.size w)
  have H : (if a0 < 6 then (wire_Box.j0 k a0 l1 true) else (wire_Box.j0 k a0 l1 (decide (a0 > 65536)))) = some (r1, r2) := h
  clear h
  have HC3 := Aside0.mk H
  clear H
  go_enter Try.func26, Try.ntmps26
  go_upto_region 1 with (fail)
  go_cut [18] (fun v18 wc => ∃ (kq : Nat) (x18_2 : Bool), v18 = .bool x18_2 ∧ Aside0 (wire_Box.j0 kq a0 l1 x18_2 = some (r1, r2)) ∧ Aside0 (kq ≤ k) ∧ Aside0 (Below w.heap.size w wc))
  case first =>
    have H := HC3.out
    clear HC3
    by_cases c4 : a0 < 6
    · rw [if_pos c4] at H
      have c4b0 : decide (a0 < 6) = true := decide_eq_true c4
      clear c4
      (first | rw [c4b0] | (simp only [i64_w, i32_w]; rw [c4b0]) | skip)
      have H' := Aside0.mk H
      clear H
      go_wp2
      go_meet
      case rel => exact ⟨_, (true), (by first | rfl | (simp; done) | (simp [*]; done)), H', ⟨by first | omega | exact Nat.le_refl _⟩, ⟨by repeat (first | (with_reducible first | exact HB.out | apply below_alloc | apply pw_below_drewN | apply below_drew1) | exact HB.out)⟩⟩
    · rw [if_neg c4] at H
      have c4b0 : decide (a0 < 6) = false := decide_eq_false c4
      clear c4
      (first | rw [c4b0] | (simp only [i64_w, i32_w]; rw [c4b0]) | skip)
      have H' := Aside0.mk H
      clear H
      go_wp2
      go_meet
      case rel => exact ⟨_, (decide (a0 > 65536)), (by first | rfl | (simp; done) | (simp [*]; done)), H', ⟨by first | omega | exact Nat.le_refl _⟩, ⟨by repeat (first | (with_reducible first | exact HB.out | apply below_alloc | apply pw_below_drewN | apply below_drew1) | exact HB.out)⟩⟩
  case rest =>
    clear HC3
    try clear c1
    try clear c2
    try clear p2
    try clear c4
    try clear c4b0
    obtain ⟨kq, x18_2, rfl, HA, HJ2, HB⟩ := hcut
    cases kq with
    | zero => exact absurd HA.out (by simp [wire_Box.j0])
    | succ kj2 =>
      have H := HA.out
      clear HA
      simp only [wire_Box.j0] at H
      by_cases c5 : x18_2 = true
      · subst c5
        have H1 : (some (([] : List Int), some 1)) = some (r1, r2) := by rw [if_pos rfl] at H; exact H
        clear H
        have H := H1
        clear H1
        simp only [Option.some.injEq, Prod.mk.injEq] at H
        obtain ⟨rfl, rfl⟩ := H
        go_wp2
        go_ret2
        exact ⟨_, by first | rfl | (simp [errW_none, errW_some] <;> rfl) | (simp [*, errW_none, errW_some] <;> rfl), by first | exact Kd.R_nil _ _ _ _ _ | exact Kd.N_nil _ _ _ _ _ | exact Kd.V_nil _ _ _ _ _ | exact Kd.Q_nil _ _ _ _ _ | exact Kd.S_nil _ _ _ _ _, by repeat (first | (with_reducible first | exact HB.out | apply below_alloc | apply pw_below_drewN | apply below_drew1) | exact HB.out)⟩
      · replace c5 := Bool.eq_false_iff.mpr c5
        subst c5
        have H1 : (wire_Box.l0 kj2 a0 l1 0 l1 (l1.length : Int) 0) = some (r1, r2) := by rw [if_neg (show ¬ (false = true) by decide)] at H; exact H
        clear H
        have H := H1
        clear H1
        have H' := Aside0.mk H
        clear H
        go_wp2
        go_loopg [6, 22] kj2 (fun kq v6 v22 w' => ∃ (x6_2 : Int) (x22_2 : Int), v6 = .int .i64 x6_2 ∧ v22 = .int .i64 x22_2 ∧ Aside0 (wire_Box.l0 kq a0 l1 x6_2 l1 (l1.length : Int) x22_2 = some (r1, r2)) ∧ Aside0 (kq ≤ kj2) ∧ Aside0 (Below w.heap.size w w'))
        case atStart => exact ⟨(0), (0), (by first | rfl | (simp; done) | (simp [*]; done)), (by first | rfl | (simp; done) | (simp [*]; done)), H', ⟨Nat.le_refl _⟩, ⟨by repeat (first | (with_reducible first | exact HB.out | apply below_alloc | apply pw_below_drewN | apply below_drew1) | exact HB.out)⟩⟩
        case round =>
          clear H'
          try clear c1
          try clear c2
          try clear p2
          try clear c4
          try clear c4b0
          try clear c5
          try clear p2
          obtain ⟨x6_2, x22_2, rfl, rfl, HA, HK2, HB⟩ := hrel
          cases gk with
          | zero => exact absurd HA.out (by simp [wire_Box.l0])
          | succ k2 =>
            have H := HA.out
            clear HA
            simp only [wire_Box.l0] at H
            by_cases c6 : x22_2 < (l1.length : Int)
            · rw [if_pos c6] at H
              have c6b0 : decide (x22_2 < (l1.length : Int)) = true := decide_eq_true c6
              clear c6
              by_cases c7 : 0 ≤ x22_2
              · rw [if_pos c7] at H
                have c7b0 : decide (0 ≤ x22_2) = true := decide_eq_true c7
                clear c7
                by_cases c8 : x22_2 < (l1.length : Int)
                · rw [if_pos c8] at H
                  have c8b0 : decide (x22_2 < (l1.length : Int)) = true := decide_eq_true c8
                  clear c8
                  by_cases c9 : (wrap64 (x6_2 + ((rd_L2 l1 x22_2).length : Int))) > (wrap64 (a0 - 6))
                  · rw [if_pos c9] at H
                    have c9b0 : decide ((wrap64 (a0 - 6)) < (wrap64 (x6_2 + ((rd_L2 l1 x22_2).length : Int)))) = true := decide_eq_true c9
                    clear c9
                    simp only [Option.some.injEq, Prod.mk.injEq] at H
                    obtain ⟨rfl, rfl⟩ := H
                    have p123 : 0 ≤ (x22_2 : Int) := of_decide_eq_true (by first | (with_reducible assumption) | assumption)
                    have q123 : x22_2 < (l1.length : Int) := of_decide_eq_true (by first | (with_reducible assumption) | assumption)
                    obtain ⟨ad123, A123_0, c123_0, e123, hx123_0, hl123_0, hi123_0⟩ := at_L2 HR1.out x22_2 p123 q123
                    cases e123
                    replace hx123_0 := (HB.out.cell (World.block_lt_of_cell? w _ hx123_0)).trans hx123_0
                    have HR123_0 := Aside0.mk hi123_0
                    have HC123_0 := Aside0.mk hl123_0
                    clear hi123_0 hl123_0
                    replace p123 := eq_true p123
                    replace q123 := eq_true q123
                    go_wp2
                    go_ret2
                    exact ⟨_, by first | rfl | (simp [errW_none, errW_some] <;> rfl) | (simp [*, errW_none, errW_some] <;> rfl), by first | exact Kd.R_nil _ _ _ _ _ | exact Kd.N_nil _ _ _ _ _ | exact Kd.V_nil _ _ _ _ _ | exact Kd.Q_nil _ _ _ _ _ | exact Kd.S_nil _ _ _ _ _, by repeat (first | (with_reducible first | exact HB.out | apply below_alloc | apply pw_below_drewN | apply below_drew1) | exact HB.out)⟩
                  · rw [if_neg c9] at H
                    have c9b0 : decide ((wrap64 (a0 - 6)) < (wrap64 (x6_2 + ((rd_L2 l1 x22_2).length : Int)))) = false := decide_eq_false c9
                    clear c9
                    by_cases c10 : (wrap64 (x6_2 + ((rd_L2 l1 x22_2).length : Int))) > 65535
                    · rw [if_pos c10] at H
                      have c10b0 : decide (65535 < (wrap64 (x6_2 + ((rd_L2 l1 x22_2).length : Int)))) = true := decide_eq_true c10
                      clear c10
                      simp only [Option.some.injEq, Prod.mk.injEq] at H
                      obtain ⟨rfl, rfl⟩ := H
                      have p123 : 0 ≤ (x22_2 : Int) := of_decide_eq_true (by first | (with_reducible assumption) | assumption)
                      have q123 : x22_2 < (l1.length : Int) := of_decide_eq_true (by first | (with_reducible assumption) | assumption)
                      obtain ⟨ad123, A123_0, c123_0, e123, hx123_0, hl123_0, hi123_0⟩ := at_L2 HR1.out x22_2 p123 q123
                      cases e123
                      replace hx123_0 := (HB.out.cell (World.block_lt_of_cell? w _ hx123_0)).trans hx123_0
                      have HR123_0 := Aside0.mk hi123_0
                      have HC123_0 := Aside0.mk hl123_0
                      clear hi123_0 hl123_0
                      replace p123 := eq_true p123
                      replace q123 := eq_true q123
                      go_wp2
                      go_ret2
                      exact ⟨_, by first | rfl | (simp [errW_none, errW_some] <;> rfl) | (simp [*, errW_none, errW_some] <;> rfl), by first | exact Kd.R_nil _ _ _ _ _ | exact Kd.N_nil _ _ _ _ _ | exact Kd.V_nil _ _ _ _ _ | exact Kd.Q_nil _ _ _ _ _ | exact Kd.S_nil _ _ _ _ _, by repeat (first | (with_reducible first | exact HB.out | apply below_alloc | apply pw_below_drewN | apply below_drew1) | exact HB.out)⟩
                    · rw [if_neg c10] at H
                      have c10b0 : decide (65535 < (wrap64 (x6_2 + ((rd_L2 l1 x22_2).length : Int)))) = false := decide_eq_false c10
                      clear c10
                      have H' := Aside0.mk H
                      clear H
                      have p123 : 0 ≤ (x22_2 : Int) := of_decide_eq_true (by first | (with_reducible assumption) | assumption)
                      have q123 : x22_2 < (l1.length : Int) := of_decide_eq_true (by first | (with_reducible assumption) | assumption)
                      obtain ⟨ad123, A123_0, c123_0, e123, hx123_0, hl123_0, hi123_0⟩ := at_L2 HR1.out x22_2 p123 q123
                      cases e123
                      replace hx123_0 := (HB.out.cell (World.block_lt_of_cell? w _ hx123_0)).trans hx123_0
                      have HR123_0 := Aside0.mk hi123_0
                      have HC123_0 := Aside0.mk hl123_0
                      clear hi123_0 hl123_0
                      replace p123 := eq_true p123
                      replace q123 := eq_true q123
                      go_wp2
                      go_roundg k2
                      case measure => have := HJ2.out; have := HK2.out; omega
                      case rel => exact ⟨(wrap64 (x6_2 + ((rd_L2 l1 x22_2).length : Int))), (wrap64 (x22_2 + 1)), (by first | rfl | (simp; done) | (simp [*]; done)), (by first | rfl | (simp; done) | (simp [*]; done)), H', ⟨by have := HJ2.out; have := HK2.out; omega⟩, ⟨by repeat (first | (with_reducible first | exact HB.out | apply below_alloc | apply pw_below_drewN | apply below_drew1) | exact HB.out)⟩⟩
                · rw [if_neg c8] at H
                  exact absurd H (by simp)
              · rw [if_neg c7] at H
                exact absurd H (by simp)
            · rw [if_neg c6] at H
              have c6b0 : decide (x22_2 < (l1.length : Int)) = false := decide_eq_false c6
              clear c6
              by_cases c11 : 6 ≤ a0
              · rw [if_pos c11] at H
                by_cases c11' : a0 ≤ 281474976710656
                · rw [if_pos c11'] at H
                  have LA := Aside0.mk c11
                  have LB := Aside0.mk c11'
                  clear c11 c11'
                  have H' := Aside0.mk H
                  clear H
                  go_wp2_with (((with_reducible refine gate_dst (N := 41) rfl ?_); refine R_make_cap (Kd.int .u8) (w0 := w) w.heap.size 5 rfl (N := 41) rfl 22 _ _ rfl 6 a0 rfl rfl Try.underlying22 (.int .u8 0) 1 info5 rfl (by decide) (by omega) 0 (ok := fun _ => True) (okp := fun _ => True) rfl (fun _ hk => hk) trivial (by omega) LA.out (by have := LB.out; omega) HB.out (below_size HB.out) ?_; intro w12 ho13 hb hg_; have hA4 := Kd.R_cell 0 ho13 4 (by omega) (by simp); have hA5 := Kd.R_cell 0 ho13 5 (by omega) (by simp); have hc4 : w12.cell? ⟨wr.heap.size, 4, none⟩ = some (.int .u8 0) := hA4.1; have hf4 : w12.frozen? ⟨wr.heap.size, 4, none⟩ = false := hA4.2; have hc5 : w12.cell? ⟨wr.heap.size, 5, none⟩ = some (.int .u8 0) := hA5.1; have hf5 : w12.frozen? ⟨wr.heap.size, 5, none⟩ = false := hA5.2; clear hA4 hA5; have HO126 := Aside0.mk ho13; have HB' := Aside0.mk hb; have HG' := Aside0.mk hg_; clear ho13 hb hg_))
                  have HO126' := Aside0.mk (R_put' (R_put' HO126.out 4 (x6_2 / 256 % 256)) 5 (x6_2 % 256))
                  have HB := Aside0.mk (Below.setCell (p := ⟨wr.heap.size, 5, none⟩) (Below.setCell (p := ⟨wr.heap.size, 4, none⟩) HB'.out (below_size HB.out) (.int .u8 (x6_2 / 256 % 256))) (below_size HB.out) (.int .u8 (x6_2 % 256)))
                  go_loopg [9, 53] k2 (fun kq v9 v53 w' => ∃ (x9_3 : List Int) (x53_3 : Int), v53 = .int .i64 x53_3 ∧ Aside0 (wire_Box.l1 kq a0 x9_3 l1 (l1.length : Int) x53_3 = some (r1, r2)) ∧ Aside0 (kq ≤ k2) ∧ Aside0 (Kd.R (Kd.int .u8) 5 w' w.heap.size (fun _ => True) v9 x9_3) ∧ Aside0 (Below w.heap.size w w'))
                  case atStart => exact ⟨(boxHead x6_2), (0), (by first | rfl | (simp; done) | (simp [*]; done)), H', ⟨Nat.le_refl _⟩, ⟨by (with_reducible repeat (first | apply Kd.R_alloc | apply Kd.R_drewN | apply Kd.R_drew)); exact HO126'.out⟩, ⟨by repeat (first | (with_reducible first | exact HB.out | apply below_alloc | apply pw_below_drewN | apply below_drew1) | exact HB.out)⟩⟩
                  case round =>
                    clear H'
                    try clear c1
                    try clear p1
                    try clear q1
                    try clear hx1
                    try clear c2
                    try clear p2
                    try clear c4
                    try clear c4b0
                    try clear c5
                    try clear c6
                    try clear c6b0
                    try clear p6
                    try clear c7
                    try clear c7b0
                    try clear c8
                    try clear c8b0
                    try clear c9
                    try clear c9b0
                    try clear c10
                    try clear c10b0
                    try clear c11
                    try clear c11b0
                    try clear c11b1
                    try clear c12
                    try clear p12
                    try clear q12
                    try clear hx12
                    try clear hx123_0
                    try clear p123
                    try clear p2
                    try clear q123
                    obtain ⟨x9_3, x53_3, rfl, HA, HK3, HO_9, HB⟩ := hrel
                    cases gk with
                    | zero => exact absurd HA.out (by simp [wire_Box.l1])
                    | succ k3 =>
                      have H := HA.out
                      clear HA
                      simp only [wire_Box.l1] at H
                      by_cases c14 : x53_3 < (l1.length : Int)
                      · rw [if_pos c14] at H
                        have c14b0 : decide (x53_3 < (l1.length : Int)) = true := decide_eq_true c14
                        clear c14
                        by_cases c15 : 0 ≤ x53_3
                        · rw [if_pos c15] at H
                          have c15b0 : decide (0 ≤ x53_3) = true := decide_eq_true c15
                          clear c15
                          by_cases c16 : x53_3 < (l1.length : Int)
                          · rw [if_pos c16] at H
                            have c16b0 : decide (x53_3 < (l1.length : Int)) = true := decide_eq_true c16
                            clear c16
                            by_cases c17 : x9_3.length + (rd_L2 l1 x53_3).length < 140737488355328
                            · rw [if_pos c17] at H
                              have LMc17 := Aside0.mk c17
                              clear c17
                              obtain ⟨y128, hy128⟩ : ∃ y_ : List Int, y_ = (x9_3 ++ (rd_L2 l1 x53_3)) := ⟨_, rfl⟩
                              replace H : (wire_Box.l1 k3 a0 y128 l1 (l1.length : Int) (wrap64 (x53_3 + 1))) = some (r1, r2) := by first | (rw [hy128]; with_reducible exact H) | (have H2_ := (Option.bind_some _ _).symm.trans H; rw [hy128]; with_reducible exact H2_) | (have H2_ := (Option.bind_some _ _).symm.trans H; with_reducible exact H2_) | with_reducible exact H | (rw [hy128]; exact H) | exact H
                              have Ny128 := Aside0.mk hy128
                              clear hy128
                              have H' := Aside0.mk H
                              clear H
                              have p127 : 0 ≤ (x53_3 : Int) := of_decide_eq_true (by first | (with_reducible assumption) | assumption)
                              have q127 : x53_3 < (l1.length : Int) := of_decide_eq_true (by first | (with_reducible assumption) | assumption)
                              obtain ⟨ad127, A127_0, c127_0, e127, hx127_0, hl127_0, hi127_0⟩ := at_L2 HR1.out x53_3 p127 q127
                              cases e127
                              replace hx127_0 := (HB.out.cell (World.block_lt_of_cell? w _ hx127_0)).trans hx127_0
                              have HR127_0 := Aside0.mk hi127_0
                              have HC127_0 := Aside0.mk hl127_0
                              clear hi127_0 hl127_0
                              replace p127 := eq_true p127
                              replace q127 := eq_true q127
                              go_wp2_with (first | ((with_reducible refine gate_builtin (b := .append) (xs := #[.tmp 57, .tmp 58]) rfl ?_); at_builtin; refine Kd.R_append_rows (Kd.int .u8) (w0 := w) w.heap.size rfl (.tmp 57) (.tmp 58) 22 5 (.int .u8 0) 1 rfl Try.underlying22 info5 rfl (by decide) (by omega) u9 x9_3 (rd_L2 l1 x53_3) _ _ _ (fun _ => True) (fun _ => False) rfl rfl ?aO ?aR (fun _ _ h => h) (fun _ h => h.elim) ?aF ?aB ?aS ?aL ?_; (case aR => repeat (first | exact (Kd.C_below HR127_0.out HB.out) | (with_reducible refine Kd.C_alloc ?_ _) | (with_reducible refine Kd.C_drewN ?_ _) | (with_reducible refine Kd.C_drew ?_))); (case aB => exact (by repeat (first | (with_reducible first | exact HB.out | apply below_alloc | apply pw_below_drewN | apply below_drew1) | exact HB.out))); (case aF => exact (fun _ _ => trivial)); (case aO => exact (by (with_reducible repeat (first | apply Kd.R_alloc | apply Kd.R_drewN | apply Kd.R_drew)); exact HO_9.out)); (case aS => exact (below_size (by repeat (first | (with_reducible first | exact HB.out | apply below_alloc | apply pw_below_drewN | apply below_drew1) | exact HB.out)))); (case aL => have := LMc17.out; omega); intro v129 w18 ho hb hg hat; rw [← Ny128.out] at ho; have n0_ := Aside0.mk (hb); have n1_ := Aside0.mk (ho); clear HB; clear HO_9; have HB := n0_; have HO130 := n1_; clear n0_ n1_; clear ho hb hg hat))
                              go_roundg k3
                              case measure => have := HJ2.out; have := HK2.out; have := HK3.out; omega
                              case rel => exact ⟨(y128), (wrap64 (x53_3 + 1)), (by first | rfl | (simp; done) | (simp [*]; done)), H', ⟨by have := HJ2.out; have := HK2.out; have := HK3.out; omega⟩, ⟨by (with_reducible repeat (first | apply Kd.R_alloc | apply Kd.R_drewN | apply Kd.R_drew)); exact HO130.out⟩, ⟨by repeat (first | (with_reducible first | exact HB.out | apply below_alloc | apply pw_below_drewN | apply below_drew1) | exact HB.out)⟩⟩
                            · rw [if_neg c17] at H
                              exact absurd H (by simp)
                          · rw [if_neg c16] at H
                            exact absurd H (by simp)
                        · rw [if_neg c15] at H
                          exact absurd H (by simp)
                      · rw [if_neg c14] at H
                        have c14b0 : decide (x53_3 < (l1.length : Int)) = false := decide_eq_false c14
                        clear c14
                        obtain ⟨ji19, hji19⟩ : ∃ j_ : Int, (wrap64 (a0 - (x9_3.length : Int))) = j_ := ⟨_, rfl⟩
                        replace H : (if 0 ≤ (ji19) then (if x9_3.length + (ji19 : Int).toNat < 140737488355328 then ((some (x9_3 ++ List.replicate (ji19 : Int).toNat 0 : List Int)).bind fun y131 => (if 4 ≤ (y131.length : Int) then ((wire_Check.f k3 (([(y131.drop 4)] : List (List Int)))).bind fun t142 => (some (stamp y131 t142, none))) else (none))) else (none)) else (none)) = some (r1, r2) := by first | (rw [hji19] at H; exact H) | (simp only [hji19] at H ⊢; exact H)
                        have hji19w : (IntKind.i64.wrap (a0 - (x9_3.length : Int))) = ji19 := (i64_w _).trans hji19
                        by_cases c20 : 0 ≤ (ji19)
                        · rw [if_pos c20] at H
                          have c20b0 := eq_true c20
                          have c20b1 : decide (0 ≤ (ji19)) = true := decide_eq_true c20
                          clear c20
                          by_cases c21 : x9_3.length + (ji19 : Int).toNat < 140737488355328
                          · rw [if_pos c21] at H
                            have LMc21 := Aside0.mk c21
                            clear c21
                            obtain ⟨y131, hy131⟩ : ∃ y_ : List Int, y_ = (x9_3 ++ List.replicate (ji19 : Int).toNat 0) := ⟨_, rfl⟩
                            replace H : (if 4 ≤ (y131.length : Int) then ((wire_Check.f k3 (([(y131.drop 4)] : List (List Int)))).bind fun t142 => (some (stamp y131 t142, none))) else (none)) = some (r1, r2) := by first | (rw [hy131]; with_reducible exact H) | (have H2_ := (Option.bind_some _ _).symm.trans H; rw [hy131]; with_reducible exact H2_) | (have H2_ := (Option.bind_some _ _).symm.trans H; with_reducible exact H2_) | with_reducible exact H | (rw [hy131]; exact H) | exact H
                            have Ny131 := Aside0.mk hy131
                            clear hy131
                            by_cases c22 : 4 ≤ (y131.length : Int)
                            · rw [if_pos c22] at H
                              have c22b0 := eq_true c22
                              have c22b1 : decide (4 ≤ (y131.length : Int)) = true := decide_eq_true c22
                              clear c22
                              obtain ⟨y134, hy134⟩ : ∃ y_ : List Int, y_ = (y131.drop 4) := ⟨_, rfl⟩
                              replace H : ((wire_Check.f k3 (([y134] : List (List Int)))).bind fun t142 => (some (stamp y131 t142, none))) = some (r1, r2) := by first | (rw [hy134]; with_reducible exact H) | (have H2_ := (Option.bind_some _ _).symm.trans H; rw [hy134]; with_reducible exact H2_) | (have H2_ := (Option.bind_some _ _).symm.trans H; with_reducible exact H2_) | with_reducible exact H | (rw [hy134]; exact H) | exact H
                              have Ny134 := Aside0.mk hy134
                              clear hy134
                              obtain ⟨y139, hy139⟩ : ∃ y_ : List (List Int), y_ = (([y134] : List (List Int))) := ⟨_, rfl⟩
                              replace H : ((wire_Check.f k3 y139).bind fun t142 => (some (stamp y131 t142, none))) = some (r1, r2) := by first | (rw [hy139]; with_reducible exact H) | (have H2_ := (Option.bind_some _ _).symm.trans H; rw [hy139]; with_reducible exact H2_) | (have H2_ := (Option.bind_some _ _).symm.trans H; with_reducible exact H2_) | with_reducible exact H | (rw [hy139]; exact H) | exact H
                              have Ny139 := Aside0.mk hy139
                              clear hy139
                              replace H := Option.bind_eq_some_iff.mp H
                              obtain ⟨t142, A230, H⟩ := H
                              replace H : (some (stamp y131 t142, none)) = some (r1, r2) := H
                              have A23 := Aside0.mk A230
                              clear A230
                              simp only [Option.some.injEq, Prod.mk.injEq] at H
                              obtain ⟨rfl, rfl⟩ := H
                              obtain ⟨Ao24, co24, eo24⟩ := Kd.R_slice HO_9.out
                              subst eo24
                              go_wp2_with (first | (at_builtin; refine Kd.R_append_zeros (Kd.int .u8) (w0 := w) w.heap.size rfl (.tmp 61) (.tmp 65) 22 3 5 (.int .u8 0) 1 rfl Try.underlying22 Try.underlying3 info5 rfl (by decide) (by omega) (.slice Ao24 x9_3.length co24) x9_3 0 (ji19 : Int) (fun _ => True) rfl rfl rfl ?aF ?aO (of_decide_eq_true (by first | (with_reducible assumption) | assumption)) ?aB ?aS ?aL ?_; (case aB => exact (by repeat (first | (with_reducible first | exact HB.out | apply below_alloc | apply pw_below_drewN | apply below_drew1) | exact HB.out))); (case aF => exact (fun _ _ => trivial)); (case aO => exact (by (with_reducible repeat (first | apply Kd.R_alloc | apply Kd.R_drewN | apply Kd.R_drew)); exact HO_9.out)); (case aS => exact (below_size (by repeat (first | (with_reducible first | exact HB.out | apply below_alloc | apply pw_below_drewN | apply below_drew1) | exact HB.out)))); (case aL => have := LMc21.out; omega); intro v132 w25 ho hb hg hat; rw [← Ny131.out] at ho; have n0_ := Aside0.mk (hb); have n1_ := Aside0.mk (ho); clear HB; clear HO_9; have HB := n0_; have HO133 := n1_; clear n0_ n1_; clear ho hb hg hat; obtain ⟨Ao27, co27, eo27⟩ := Kd.R_slice HO133.out; subst eo27; have q26 : (4 : Int) ≤ ((y131.length : Int) : Int) := of_decide_eq_true (by first | (with_reducible assumption) | assumption); obtain ⟨i026, hi026, _, hsz26, _⟩ := info_parts info5; have hroom26 : y131.length ≤ co27 := (Kd.R_reads' HO133.out).2.1; have hC26 : Kd.F (Kd.int .u8) _ _ Ao27 y131.length y131 := (Kd.V_at (base := w.heap.size) (Kd.R_V HO133.out)).2.2; have hcut26 := cut_from (P := Try.prog) 22 5 .i64 Try.underlying22 hi026 1 hsz26 Ao27 y131.length co27 4 (by omega) q26; have hr26 := Kd.F_cut (m := (4 : Int).toNat) (c := co27) hC26 (by omega) hroom26; obtain ⟨A26, hA26⟩ : ∃ A1, A1 = (if co27 = (4 : Int).toNat then Ao27 else (Ao27 : Option Addr).map (·.add ((4 : Int).toNat * 1))) := ⟨_, rfl⟩; obtain ⟨c26, hc26⟩ : ∃ c1, c1 = co27 - (4 : Int).toNat := ⟨_, rfl⟩; have hy26 : y134.length = y131.length - (4 : Int).toNat := (by rw [Ny134.out, List.length_drop] <;> omega); rw [show (y131).drop (4 : Int).toNat = y134 from Ny134.out.symm] at hr26; replace hr26 : Kd.F (Kd.int .u8) _ _ A26 y134.length y134 := (by rw [hA26]; exact hr26); rw [← hy26, ← hA26, ← hc26] at hcut26; have HO138 := Aside0.mk (show Kd.V (Kd.int .u8) 5 _ w.heap.size _ (.slice A26 y134.length c26) y134 from Kd.V_mk (by rw [hy26, hc26]; exact Nat.sub_le_sub_right hroom26 _) hr26); have HC138 := Aside0.mk (show y134.length ≤ c26 from by rw [hy26, hc26]; exact Nat.sub_le_sub_right hroom26 _); clear hr26 hC26 hroom26 hi026 hsz26 hc26; have KY26 := Aside0.mk hy26; have KA26 := Aside0.mk hA26; clear hy26 hA26; replace q26 := eq_true q26) | ((with_reducible refine gate_dst (N := 69) rfl ?_); refine Kd.N_lit (Kd.slice 5 (Kd.int .u8)) _ 22 ?hg (N' := 69) ?hd (xs := ([y134] : List (List Int))) (inner := [.slice A26 y134.length c26]) (ok := (fun _ => True)) (okp := (fun _ => True)) ?hr ?hp (fun _ hk => hk) ((show ∀ k_, w25.heap.size ≤ k_ → (fun _ => True) k_ from fun k_ hk => trivial) _ (Nat.le_refl _)) (Below.refl _ _) (Nat.le_refl _) (by simp) ?_; (case hd => rfl); (case hg => rfl); (case hr => first | (go_simp; done) | (go_simp; rfl)); (case hp => exact (Reps.one (show Kd.FK (Kd.slice 5 (Kd.int .u8)) _ _ y134 [.slice A26 y134.length c26] from (Kd.FK_slice_mk (Kd.V_reads' (Kd.V_mono (ok' := (fun _ => True)) (HO138.out) (fun k_ hk => trivial))).2.1 (Kd.V_F (Kd.V_mono (ok' := (fun _ => True)) (HO138.out) (fun k_ hk => trivial))))) (Reps.none _ _))); intro v140 w28 ho29 hb hg_ hnew_; clear hg_ hnew_; (first | rw [← Ny139.out] at ho29 | (simp only [Int.reduceToNat] at ho29; rw [← Ny139.out] at ho29)); have n0_ := Aside0.mk (Kd.R_below (by (with_reducible repeat (first | apply Kd.R_alloc | apply Kd.R_drewN | apply Kd.R_drew)); exact HO133.out) hb); have n1_ := Aside0.mk (Kd.V_elder' (by (with_reducible repeat (first | apply Kd.V_alloc | apply Kd.V_drewN | apply Kd.V_drew)); exact HO138.out) (Kd.N_base ho29) hb); have n2_ := Aside0.mk (Kd.N_lower ho29 (below_size (by repeat (first | (with_reducible first | exact HB.out | apply below_alloc | apply pw_below_drewN | apply below_drew1) | exact HB.out)))); have n3_ := Aside0.mk (below_step (by repeat (first | (with_reducible first | exact HB.out | apply below_alloc | apply pw_below_drewN | apply below_drew1) | exact HB.out)) hb); clear HO133; clear HO138; clear HB; have HO133 := n0_; have HO138 := n1_; have HO141 := n2_; have HB := n3_; clear n0_ n1_ n2_ n3_; clear hb ho29; obtain ⟨Ao30, co30, eo30⟩ := Kd.N_slice HO141.out; subst eo30) | ((with_reducible refine gate_callee (f := 47) rfl ?_); refine goesL_ (some 70) rfl rfl Try.func47 (by kernel_rfl) rfl #[.slice Ao30 y139.length co30] rfl (by (try simp only [List.map_toArray, List.map_cons, List.map_nil]); first | done | rfl | (simp only [List.length_drop, List.length_take]; rfl)) ?_; (with_reducible refine (wire_Check.calls k3 _ _ y139 t142 _ ?side1 ?side2 A23.out).mono ?_); (case side1 => repeat (first | exact (Kd.N_reads' HO141.out).2.2 | (with_reducible refine Kd.C_alloc ?_ _) | (with_reducible refine Kd.C_drewN ?_ _) | (with_reducible refine Kd.C_drew ?_))); (case side2 => exact (Kd.N_reads' HO141.out).2.1); rintro e w' ⟨rfl, ⟨nd, rfl⟩⟩; refine ⟨_, rfl, ?_⟩; have c22x := of_decide_eq_true c22b1; obtain ⟨g27, hAo27, hgb27, hgl27, _⟩ := R_form HO133.out (by omega); subst hAo27; have hA0 := Kd.R_cell 0 HO133.out 0 (by omega) (by omega); have hA1 := Kd.R_cell 0 HO133.out 1 (by omega) (by omega); have hA2 := Kd.R_cell 0 HO133.out 2 (by omega) (by omega); have hA3 := Kd.R_cell 0 HO133.out 3 (by omega) (by omega); have hc0 : w28.cell? ⟨g27, 0, none⟩ = some (.int .u8 (rdOf 0 y131 0)) := hA0.1; have hf0 : w28.frozen? ⟨g27, 0, none⟩ = false := hA0.2; have hc1 : w28.cell? ⟨g27, 1, none⟩ = some (.int .u8 (rdOf 0 y131 1)) := hA1.1; have hf1 : w28.frozen? ⟨g27, 1, none⟩ = false := hA1.2; have hc2 : w28.cell? ⟨g27, 2, none⟩ = some (.int .u8 (rdOf 0 y131 2)) := hA2.1; have hf2 : w28.frozen? ⟨g27, 2, none⟩ = false := hA2.2; have hc3 : w28.cell? ⟨g27, 3, none⟩ = some (.int .u8 (rdOf 0 y131 3)) := hA3.1; have hf3 : w28.frozen? ⟨g27, 3, none⟩ = false := hA3.2; clear hA0 hA1 hA2 hA3; have q0 : 0 < y131.length := by omega; have q1 : 1 < y131.length := by omega; have q2 : 2 < y131.length := by omega; have q3 : 3 < y131.length := by omega; clear c22x))
                              (with_reducible refine (wire_Check.calls k3 _ _ y139 t142 _ ?side1 ?side2 A23.out).mono ?_)
                              case side1 => exact (Kd.N_reads' HO141.out).2.2
                              case side2 => exact (Kd.N_reads' HO141.out).2.1
                              rintro e w' ⟨rfl, ⟨nd, rfl⟩⟩
                              have c22x := of_decide_eq_true c22b1
                              obtain ⟨g27, hAo27, hgb27, hgl27, _⟩ := R_form HO133.out (by omega)
                              subst hAo27
                              have hA0 := Kd.R_cell 0 HO133.out 0 (by omega) (by omega)
                              have hA1 := Kd.R_cell 0 HO133.out 1 (by omega) (by omega)
                              have hA2 := Kd.R_cell 0 HO133.out 2 (by omega) (by omega)
                              have hA3 := Kd.R_cell 0 HO133.out 3 (by omega) (by omega)
                              have hc0 : w28.cell? ⟨g27, 0, none⟩ = some (.int .u8 (rdOf 0 y131 0)) := hA0.1
                              have hf0 : w28.frozen? ⟨g27, 0, none⟩ = false := hA0.2
                              have hc1 : w28.cell? ⟨g27, 1, none⟩ = some (.int .u8 (rdOf 0 y131 1)) := hA1.1
                              have hf1 : w28.frozen? ⟨g27, 1, none⟩ = false := hA1.2
                              have hc2 : w28.cell? ⟨g27, 2, none⟩ = some (.int .u8 (rdOf 0 y131 2)) := hA2.1
                              have hf2 : w28.frozen? ⟨g27, 2, none⟩ = false := hA2.2
                              have hc3 : w28.cell? ⟨g27, 3, none⟩ = some (.int .u8 (rdOf 0 y131 3)) := hA3.1
                              have hf3 : w28.frozen? ⟨g27, 3, none⟩ = false := hA3.2
                              clear hA0 hA1 hA2 hA3
                              have q0 : 0 < y131.length := by omega
                              have q1 : 1 < y131.length := by omega
                              have q2 : 2 < y131.length := by omega
                              have q3 : 3 < y131.length := by omega
                              have hfin := R_put' (R_put' (R_put' (R_put' (Kd.R_drewN HO133.out nd) 0 ((t142 / 16777216) % 256)) 1 ((t142 / 65536) % 256)) 2 ((t142 / 256) % 256)) 3 (t142 % 256)
                              have hbel := Below.setCell (p := ⟨g27, 3, none⟩) (Below.setCell (p := ⟨g27, 2, none⟩) (Below.setCell (p := ⟨g27, 1, none⟩) (Below.setCell (p := ⟨g27, 0, none⟩) (pw_below_drewN HB.out nd) hgb27 (.int .u8 ((t142 / 16777216) % 256))) hgb27 (.int .u8 ((t142 / 65536) % 256))) hgb27 (.int .u8 ((t142 / 256) % 256))) hgb27 (.int .u8 (t142 % 256))
                              have HF := Aside0.mk hfin
                              have HBF := Aside0.mk hbel
                              clear hfin hbel c22x
                              go_wp2
                              go_ret2
                              exact ⟨_, rfl, HF.out, HBF.out⟩
                            · rw [if_neg c22] at H
                              exact absurd H (by simp)
                          · rw [if_neg c21] at H
                            exact absurd H (by simp)
                        · rw [if_neg c20] at H
                          exact absurd H (by simp)
                · rw [if_neg c11'] at H
                  exact absurd H (by simp)
              · rw [if_neg c11] at H
                exact absurd H (by simp)

end Go.Proofs.Ytbphmpncajfaiaa.Py
/- page.Encode (function 39). -/
namespace Go.Proofs.Ytbphmpncajfaiaa.K
open Go.RowKit Go.Proofs.Ytbphmpncajfaiaa.Py Go.Proofs.YtbphmpncajfaiaaW.PrintWords Go.Proofs.YtbphmpncajfaiaaW.PrintLast Go.Proofs.YtbphmpncajfaiaaW.PrintMore
set_option linter.unusedVariables false
set_option linter.unusedSimpArgs false
/-- The k-th of the eight bytes of n, the highest first. -/
def byteAt (n : Int) (k : Nat) : Int := (n % 18446744073709551616) / 2 ^ (56 - 8 * k) % 256
def eight (n : Int) (k : Nat) : List Int := (List.range k).map (byteAt n)
def eights (l : List Int) (x : Nat) : List Int := (l.take x).flatMap (fun n => eight n 8)
theorem eight_len (n : Int) (k : Nat) : (eight n k).length = k := by simp [eight]
theorem eight_succ (n : Int) (k : Nat) : eight n (k + 1) = eight n k ++ [byteAt n k] := by simp [eight, List.range_succ]
theorem eights_succ (l : List Int) (x : Int) (h0 : 0 ≤ x) (h1 : x < l.length) : eights l (x.toNat + 1) = eights l x.toNat ++ eight (rd l x) 8 := by
  unfold eights rd
  have hlt : x.toNat < l.length := by omega
  rw [List.take_add_one, List.flatMap_append]
  simp [List.getElem?_eq_getElem hlt]
theorem eights_len (l : List Int) (x : Nat) (h : x ≤ 60) : (eights l x).length ≤ 480 := by
  unfold eights
  rw [List.length_flatMap]
  have : ∀ ls : List Int, (ls.map (fun n => (eight n 8).length)).sum = 8 * ls.length := by
    intro ls
    induction ls with
    | nil => rfl
    | cons a ls ih => rw [List.map_cons, List.sum_cons, ih, eight_len, List.length_cons]; omega
  rw [this, List.length_take]
  omega
set_option maxHeartbeats 8000000 in
set_option maxRecDepth 100000 in
theorem encode_calls (lsn : Int) (l : List Int) (w : World) (hl : l.length = 60) (K1 K2 : Nat) (pn bx : List Int) (h1 : wire_Put.f K1 [] [lsn] = some pn) (hp : pn.length ≤ 10) (h2 : wire_Box.f K2 512 [pn ++ eights l 60] = some (bx, none)) :
    Calls Try.prog 39 #[.agg (pg (lsn :: l))] w fun e w' => ∃ v, e = .returned v ∧ Kd.R (Kd.int .u8) 5 w' w.heap.size (fun _ => True) v bx ∧ Below w.heap.size w w' := by
  have HL := Aside0.mk hl
  have HB := Aside0.mk (Below.refl w.heap.size w)
  obtain ⟨q, hq⟩ : ∃ q, q = lsn :: l := ⟨_, rfl⟩
  have NQ := Aside0.mk hq
  obtain ⟨yn, hyn⟩ : ∃ y : List Int, y = [lsn] := ⟨_, rfl⟩
  have Nyn := Aside0.mk hyn
  have A1 := Aside0.mk (show wire_Put.f K1 [] yn = some pn by rw [hyn]; exact h1)
  have A2 := Aside0.mk h2
  have LP := Aside0.mk hp
  rw [← hq]
  clear hl hq hyn h1 h2 hp
  go_enter Try.func39, Try.ntmps39
  go_wp2_with (first | ((with_reducible refine gate_dst (N := 1) rfl ?_); refine page_box rfl _ rfl q (by rw [NQ.out, List.length_cons, HL.out]) rfl ?_; intro g w1 hg hp hb; have HP := Aside0.mk (show Page w1 g (lsn :: l) by rw [← NQ.out]; exact hp); have hc0 := HP.out.cell 0 lsn rfl; replace HB := Aside0.mk (below_step HB.out hb); clear hp hb hg) | ((with_reducible refine gate_dst (N := 11) rfl ?_); refine Kd.R_lit (w0 := w1) (Kd.int .i64) w1.heap.size 3 ?hg (N := 11) ?hd (xs := ([lsn] : List Int)) (inner := [.int .i64 lsn]) (ok := fun _ => True) (okp := fun _ => True) ?hr ?hp (fun _ hk => hk) trivial (Below.refl _ _) (Nat.le_refl _) (by simp) ?_; (case hd => rfl); (case hg => rfl); (case hr => first | (go_simp; done) | (go_simp; rfl)); (case hp => exact (Reps.one (show Kd.M (Kd.int .i64) _ _ _ lsn [.int .i64 lsn] from rfl) (Reps.none _ _))); intro v_n w_n ho_ hb_ hg_ hnew_; rw [← Nyn.out] at ho_; obtain ⟨A_n, c_n, e_n⟩ := Kd.R_slice ho_; subst e_n; have H_n := Aside0.mk ho_; replace HP := Aside0.mk (HP.out.below hb_); replace HB := Aside0.mk (below_step HB.out hb_); clear ho_ hb_ hg_ hnew_ hc0) | ((with_reducible refine gate_callee (f := 19) rfl ?_); (with_reducible refine gate_dst (N := 12) rfl ?_); refine goesL_ (some 12) rfl rfl Try.func19 (by kernel_rfl) rfl #[.slice none 0 0, .slice A_n yn.length c_n] rfl (by (try simp only [List.map_toArray, List.map_cons, List.map_nil]); first | done | rfl) ?_; (refine (wire_Put.calls K1 _ _ ([] : List Int) _ _ yn pn _ ?side1 ?side2 ?side3 ?side4 A1.out).mono ?_); (case side1 => exact Kd.C_nil _ _); (case side2 => exact Nat.le_refl _); (case side3 => exact (Kd.R_reads' H_n.out).2.2); (case side4 => exact (Kd.R_reads' H_n.out).2.1); rintro e w2 ⟨v_pn, rfl, ho_, hb_⟩; refine ⟨_, rfl, ?_⟩; have HO := Aside0.mk (Kd.R_lower ho_ (below_size HB.out)); replace HP := Aside0.mk (HP.out.below hb_); replace HB := Aside0.mk (below_step HB.out hb_); clear ho_ hb_ H_n) | ((with_reducible refine gate_dst (N := 14) rfl ?_); refine page_cells rfl _ rfl g lsn l rfl HP.out ?_))
  go_loopg [3, 15] 60 (fun kq v3 v15 w' => ∃ x : Int, v15 = .int .i64 x ∧ Aside0 (0 ≤ x ∧ x ≤ 60 ∧ kq + x.toNat = 60) ∧ Aside0 (Kd.R (Kd.int .u8) 5 w' w.heap.size (fun _ => True) v3 (pn ++ eights l x.toNat)) ∧ Aside0 (Below w.heap.size w w'))
  case atStart => exact ⟨0, rfl, ⟨by omega⟩, ⟨by simpa [eights] using HO.out⟩, HB⟩
  case round =>
    clear HO HB HP
    obtain ⟨x, rfl, HX, HO, HB⟩ := hrel
    obtain ⟨hx0, hx1, hxk⟩ := HX.out
    by_cases hlt : x < 60
    · obtain ⟨k1, rfl⟩ : ∃ k1, gk = k1 + 1 := ⟨gk - 1, by omega⟩
      have HXK := Aside0.mk hxk
      have c1 : decide (x < 60) = true := decide_eq_true hlt
      clear hxk HX
      obtain ⟨n, hn⟩ : ∃ n, n = rd l x := ⟨_, rfl⟩
      have NN := Aside0.mk hn
      clear hn
      go_wp2_with (first | ((with_reducible refine gate_dst (N := 17) rfl ?_); refine page_index rfl _ _ rfl l x HL.out rfl rfl hx0 hlt ?_; rw [← NN.out]))
      go_loopg [3, 6] 8 (fun kq v3 v6 w' => ∃ (i : Int) (k : Nat), v6 = .int .i64 i ∧ Aside0 (i = 56 - 8 * (k : Int) ∧ k ≤ 8 ∧ kq + k = 8) ∧ Aside0 (Kd.R (Kd.int .u8) 5 w' w.heap.size (fun _ => True) v3 (pn ++ eights l x.toNat ++ eight n k)) ∧ Aside0 (Below w.heap.size w w'))
      case atStart => exact ⟨56, 0, rfl, ⟨by omega⟩, ⟨by simpa [eight] using HO.out⟩, HB⟩
      case round =>
        clear HO HB
        obtain ⟨i, k, rfl, HX, HO, HB⟩ := hrel
        obtain ⟨hi, hk8, hkk⟩ := HX.out
        by_cases hge : i ≥ 0
        · obtain ⟨k2, rfl⟩ : ∃ k2, gk = k2 + 1 := ⟨gk - 1, by omega⟩
          have c2 : decide (i ≥ 0) = true := decide_eq_true hge
          have hi1 : i ≤ 56 := by omega
          have HX2 := Aside0.mk (And.intro hi hkk)
          clear hi hkk HX
          have HLL := Aside0.mk (show (pn ++ eights l x.toNat ++ eight n k).length + 1 ≤ 1000 by
            have h1 := eights_len l x.toNat (by omega)
            have h2 := LP.out
            have h3 := HL.out
            rw [List.length_append, List.length_append, eight_len]
            omega)
          go_wp2_with (first | ((with_reducible refine gate_builtin (b := .append) (xs := #[.tmp 22, .tmp 28]) rfl ?_); at_builtin; refine Kd.R_append (Kd.int .u8) (w0 := w) w.heap.size rfl (.tmp 22) (.tmp 28) 22 5 (.int .u8 0) 1 rfl Try.underlying22 info5 rfl (by decide) (by omega) u3 (pn ++ eights l x.toNat ++ eight n k) (IntKind.u64.wrap n / 2 ^ i.toNat % 256) [.int .u8 (IntKind.u64.wrap n / 2 ^ i.toNat % 256)] (fun _ => True) (fun _ => False) rfl rfl ?aP (fun _ hk => hk.elim) ?aF ?aO ?aB ?aS ?aL ?_; (case aP => exact rfl); (case aB => exact HB.out); (case aF => exact (fun _ _ => trivial)); (case aO => exact HO.out); (case aS => exact below_size HB.out); (case aL => have := HLL.out; omega); intro v1 w1 ho hb hg hat; replace HO := Aside0.mk ho; replace HB := Aside0.mk hb; clear ho hb hg hat))
          go_roundg k2
          case measure => omega
          case rel =>
            obtain ⟨hi, hkk⟩ := HX2.out
            refine ⟨i - 8, k + 1, rfl, ⟨by omega⟩, ⟨?_⟩, HB⟩
            rw [eight_succ, ← List.append_assoc, show byteAt n k = IntKind.u64.wrap n / 2 ^ i.toNat % 256 by unfold byteAt; rw [IntKind.wrap_u64, show i.toNat = 56 - 8 * k by omega]]
            exact HO.out
        · have c2 : decide (i ≥ 0) = false := decide_eq_false hge
          obtain rfl : k = 8 := by omega
          clear hi hkk HX
          go_wp2
          go_roundg k1
          case measure => omega
          case rel => exact ⟨x + 1, rfl, ⟨by have := HXK.out; omega⟩, ⟨by rw [show (x + 1).toNat = x.toNat + 1 by omega, eights_succ l x hx0 (by rw [HL.out]; omega), ← NN.out, ← List.append_assoc]; exact HO.out⟩, HB⟩
    · have c1 : decide (x < 60) = false := decide_eq_false hlt
      obtain rfl : x = 60 := by omega
      clear hxk HX
      have ho := HO.out
      rw [show (60 : Int).toNat = 60 from rfl] at ho
      obtain ⟨inn, hin⟩ : ∃ z, z = pn ++ eights l 60 := ⟨_, rfl⟩
      rw [← hin] at ho
      obtain ⟨A_i, c_i, e_i⟩ := Kd.R_slice ho
      subst e_i
      have HI := Aside0.mk ho
      obtain ⟨y, hy⟩ : ∃ y, y = [inn] := ⟨_, rfl⟩
      have Ny := Aside0.mk hy
      have A3 := Aside0.mk (show wire_Box.f K2 512 y = some (bx, none) by rw [hy, hin]; exact A2.out)
      clear ho hin hy HO A2
      go_wp2_with (first | ((with_reducible refine gate_dst (N := 33) rfl ?_); refine C_lit (Kd.slice 5 (Kd.int .u8)) 22 ?hg (N := 33) ?hd (xs := [inn]) (inner := [.slice A_i inn.length c_i]) ?hr ?hp (by simp) ?_; (case hd => rfl); (case hg => rfl); (case hr => first | (go_simp; done) | (go_simp; rfl)); (case hp => exact (Reps.one ⟨_, _, rfl, (Kd.R_reads' HI.out).2.1, (Kd.R_reads' HI.out).2.2⟩ (Reps.none _ _))); intro w_y A_y c_y hc_ l_y hb_; rw [← Ny.out] at hc_ l_y ⊢; replace HB := Aside0.mk (below_step HB.out hb_); have C_y := Aside0.mk hc_; have L_y := Aside0.mk l_y; clear hc_ hb_ l_y) | ((with_reducible refine gate_callee (f := 26) rfl ?_); (with_reducible refine gate_dst (N := 34) rfl ?_); refine goesL_ (some 34) rfl rfl Try.func26 (by kernel_rfl) rfl #[.int .i64 512, .slice A_y y.length c_y] rfl (by (try simp only [List.map_toArray, List.map_cons, List.map_nil]); first | done | rfl) ?_; (refine (wire_Box.calls K2 512 _ _ y bx none _ ?side1 ?side2 A3.out).mono ?_); (case side1 => exact C_y.out); (case side2 => exact L_y.out); rintro e w_bx ⟨v_bx, rfl, ho_, hb_⟩; refine ⟨_, rfl, ?_⟩; have H_bx := Aside0.mk (Kd.R_lower ho_ (below_size HB.out)); replace HB := Aside0.mk (below_step HB.out hb_); clear ho_ hb_; (try simp only [errW_none, errW_some])))
      go_ret
      exact ⟨_, rfl, H_bx.out, HB.out⟩
end Go.Proofs.Ytbphmpncajfaiaa.K
/- bytes.Count at a separator of one byte (function 54). -/
namespace Go.Proofs.Ytbphmpncajfaiaa.K
open Go.RowKit Go.Proofs.YtbphmpncajfaiaaW.PrintWords Go.Proofs.YtbphmpncajfaiaaW.PrintLast Go.Proofs.YtbphmpncajfaiaaW.PrintMore
set_option linter.unusedVariables false
set_option linter.unusedSimpArgs false
theorem run_zeros (w : World) (ad : Addr) (c : Nat) (l : List Int) (hc : ∀ j x, l[j]? = some x → w.cell? (ad.add j) = some (.int .u8 x)) :
    (Extern.BytealgCount.count #[.slice (some ad) l.length c, .int .u8 0]).run Try.prog w = .ok (.int .i64 (Lib.countByte (Lib.bytesOf l) 0)) w := by
  have hl := Lib.run_loadBytesX (P := Try.prog) w l ad .empty hc
  have key : ∀ n : Int, (⟨ByteArray.empty.data ++ (Lib.bytesOf l).toArray⟩ : ByteArray).foldl (fun (n : Int) x => if x == (0 : UInt8) then n + 1 else n) n = n + (Lib.countByte (Lib.bytesOf l) 0 : Nat) := by
    intro n
    rw [Lib.foldl_data, Lib.count_foldl]
    simp
  change Sem.run Try.prog (do
    let b ← Extern.Bytes.bytesOf (.slice (some ad) l.length c)
    let c' ← Extern.Bytes.asByte (.int .u8 0)
    pure (goInt (b.foldl (fun n x => if x == c' then n + 1 else n) (0 : Nat)))) w = _
  simp only [Extern.Bytes.bytesOf, Extern.Bytes.asByte, Sem.run_bind, Sem.run_pure, hl, Result.andThen_ok]
  have k0 := key 0
  rw [Int.zero_add] at k0
  exact congrArg (fun z => Result.ok (Value.int .i64 z) w) k0
theorem count_calls (ad : Addr) (c d : Nat) (l : List Int) (sp : Addr) (w : World) (hC : Kd.C (Kd.int .u8) w (some ad) l.length l) (hs : w.cell? sp = some (.int .u8 0)) :
    Calls Try.prog 54 #[.slice (some ad) l.length c, .slice (some sp) 1 d] w fun e w' => e = .returned (.int .i64 (Lib.countByte (Lib.bytesOf l) 0)) ∧ w' = w := by
  have hc : ∀ j x, l[j]? = some x → w.cell? (ad.add j) = some (.int .u8 x) := by
    intro i x hx
    have hi := (List.getElem?_eq_some_iff.1 hx).1
    obtain ⟨a, ha, h⟩ := Kd.at_int hC (i : Int) (by omega) (by omega)
    injection ha with ha
    subst ha
    simpa [rd, hx] using h
  clear hC
  have HC := Aside0.mk hc
  clear hc
  have h0 : w.cell? (sp.add 0) = some (.int .u8 0) := by
    have e : sp.add 0 = sp := by simp [Addr.add]
    rw [e]; exact hs
  go_enter Try.func54, Try.ntmps54
  go_wp2
  rw [run_callFunc_extern Try.func58 (by kernel_rfl) (by kernel_rfl) (by kernel_rfl) (e := Extern.BytealgCount.count) (by kernel_rfl), run_zeros w ad c l HC.out]
  simp only [Result.andThen]
  rw [Oper.upon_value]
  go_wp2
  go_ret
  exact ⟨rfl, rfl⟩
end Go.Proofs.Ytbphmpncajfaiaa.K
-- PRINTED by print.py (a twelfth state) out of the translation. Not trusted: Lean checks it.
namespace Go.Proofs.Ytbphmpncajfaiaa.Py
open Go.RowKit Go.Proofs.YtbphmpncajfaiaaW.PrintWords Go.Proofs.YtbphmpncajfaiaaW.PrintLast Go.Proofs.YtbphmpncajfaiaaW.PrintMore
attribute [local go_sem] max2_int min2_int max_two min_two max_three min_three max_four min_four   -- for this text's walks alone
set_option linter.unusedVariables false
set_option linter.unusedSimpArgs false

/-! ### bytes_Equal: function 52 -/
def bytes_Equal.f (l0 : List Int) (l1 : List Int) : Option (Bool) := some ((strOfNums l0).toList == (strOfNums l1).toList)
set_option maxHeartbeats 8000000 in
set_option maxRecDepth 100000 in
theorem bytes_Equal.calls (A0 : Option Addr) (c0 : Nat) (l0 : List Int) (A1 : Option Addr) (c1 : Nat) (l1 : List Int) (r : Bool) (w : World) (hr0 : Kd.C (Kd.int .u8) w A0 l0.length l0) (hc0 : l0.length ≤ c0) (hr1 : Kd.C (Kd.int .u8) w A1 l1.length l1) (hc1 : l1.length ≤ c1) (h : bytes_Equal.f l0 l1 = some r) :
    Calls Try.prog 52 #[.slice A0 l0.length c0, .slice A1 l1.length c1] w fun e w' => e = .returned (.bool r) ∧ Drawn0 w w' := by
  have HR0 := Aside0.mk hr0
  have HC0 := Aside0.mk hc0
  clear hr0 hc0
  have HR1 := Aside0.mk hr1
  have HC1 := Aside0.mk hc1
  clear hr1 hc1
  have H : (some ((strOfNums l0).toList == (strOfNums l1).toList)) = some r := h
  clear h
  obtain rfl := Option.some.inj H
  have hcv3 := Kd.C_string (P := Try.prog) (A := A0) (c := c0) Try.underlying22 Try.underlying5 Try.underlying9 HR0.out
  have hcv4 := Kd.C_string (P := Try.prog) (A := A1) (c := c1) Try.underlying22 Try.underlying5 Try.underlying9 HR1.out
  go_enter Try.func52, Try.ntmps52
  go_wp2
  go_ret
  exact ⟨by first | rfl | (simp; done) | (simp [*]; done), by repeat (first | exact Drawn0.refl _ | apply Drawn0.step)⟩

end Go.Proofs.Ytbphmpncajfaiaa.Py
-- begun as a text of the kit's print.py, mended by hand

namespace Go.Proofs.Ytbphmpncajfaiaa.Py
open Go.Proofs.Ytbphmpncajfaiaa.K Go.RowKit Go.Proofs.YtbphmpncajfaiaaW.PrintWords Go.Proofs.YtbphmpncajfaiaaW.PrintLast Go.Proofs.YtbphmpncajfaiaaW.PrintMore
attribute [local go_sem] max2_int min2_int max_two min_two max_three min_three max_four min_four   -- for this text's walks alone
set_option linter.unusedVariables false
set_option linter.unusedSimpArgs false

/-! ### wire_Unbox: function 29 -/
def wire_Unbox.j0 : Nat → List Int → Bool → Option (List Int × Option Int)
  | 0, _, _ => none
  | k + 1, x0, x15 => if x15 = true then (some (([] : List Int), some 4)) else (if 4 < (x0.length : Int) then (if 5 < (x0.length : Int) then (if (Go.bits .or .i64 (wrap64 ((wrap64 (rd x0 4)) * 256)) (wrap64 (rd x0 5))) > (wrap64 ((x0.length : Int) - 6)) then (some (([] : List Int), some 4)) else (if 6 ≤ (wrap64 (6 + (Go.bits .or .i64 (wrap64 ((wrap64 (rd x0 4)) * 256)) (wrap64 (rd x0 5))))) then (if (wrap64 (6 + (Go.bits .or .i64 (wrap64 ((wrap64 (rd x0 4)) * 256)) (wrap64 (rd x0 5))))) ≤ (x0.length : Int) then ((slices_Clone_byte_byte.f ((x0.take ((wrap64 (6 + (Go.bits .or .i64 (wrap64 ((wrap64 (rd x0 4)) * 256)) (wrap64 (rd x0 5))))) : Int).toNat).drop 6)).bind fun t269 => ((wire_Box.f k (x0.length : Int) (([t269] : List (List Int)))).bind fun bt275 => (if bt275.2.isNone = true then ((bytes_Equal.f bt275.1 x0).bind fun t280 => (if t280 = true then (some (t269, none)) else (some (([] : List Int), some 4)))) else (some (([] : List Int), some 4))))) else (none)) else (none))) else (none)) else (none))
def wire_Unbox.f (k : Nat) (l0 : List Int) : Option (List Int × Option Int) := if (l0.length : Int) < 6 then (wire_Unbox.j0 k l0 true) else (wire_Unbox.j0 k l0 (decide ((l0.length : Int) > 65536)))
theorem wire_Unbox.mono_l : ∀ k, (∀ y0 y1, LeO (wire_Unbox.j0 k y0 y1) (wire_Unbox.j0 (k + 1) y0 y1))
  | 0 => fun _ _ r h => by simp [wire_Unbox.j0] at h
  | k + 1 => by
    have ih0 := wire_Unbox.mono_l k
    · intro y0 y1
      unfold wire_Unbox.j0
      repeat' first
      | (with_reducible exact ih0 _ _)
      | (with_reducible exact wire_Box.mono _ _ _)
      | (with_reducible exact LeO.refl _)
      | (with_reducible exact LeO.none _)
      | (with_reducible refine LeO.ite ?_ ?_)
      | (with_reducible refine LeO.bind ?_ (fun _ => ?_))
      | exact ih0 _ _
      | exact wire_Box.mono _ _ _
      | exact LeO.none _
      | refine LeO.ite ?_ ?_
      | refine LeO.bind ?_ (fun _ => ?_)
theorem wire_Unbox.mono : ∀ a0 k, LeO (wire_Unbox.f k a0) (wire_Unbox.f (k + 1) a0) := by
  intro a0 k
  have ih0 := wire_Unbox.mono_l k
  unfold wire_Unbox.f
  repeat' first
      | (with_reducible exact ih0 _ _)
      | (with_reducible exact wire_Box.mono _ _ _)
      | (with_reducible exact LeO.refl _)
      | (with_reducible exact LeO.none _)
      | (with_reducible refine LeO.ite ?_ ?_)
      | (with_reducible refine LeO.bind ?_ (fun _ => ?_))
      | exact ih0 _ _
      | exact wire_Box.mono _ _ _
      | exact LeO.none _
      | refine LeO.ite ?_ ?_
      | refine LeO.bind ?_ (fun _ => ?_)
set_option maxHeartbeats 8000000 in
set_option maxRecDepth 100000 in
theorem wire_Unbox.calls (k : Nat) (A0 : Option Addr) (c0 : Nat) (l0 : List Int) (r1 : List Int) (r2 : Option Int) (w : World) (hr0 : Kd.C (Kd.int .u8) w A0 l0.length l0) (hc0 : l0.length ≤ c0) (h : wire_Unbox.f k l0 = some (r1, r2)) :
    Calls Try.prog 29 #[.slice A0 l0.length c0] w fun e w' => ∃ v0_ : Value, e = .returned (.tuple #[v0_, errW r2]) ∧ Kd.R (Kd.int .u8) 5 w' w.heap.size (fun _ => True) v0_ r1 ∧ Below w.heap.size w w' := by
  have hu40 := Try.underlying40
  have hu49 := Try.underlying49
  have HR0 := Aside0.mk hr0
  have HC0 := Aside0.mk hc0
  clear hr0 hc0
  have HB := Aside0.mk (Below.refl w.heap.size w)
  have H : (if (l0.length : Int) < 6 then (wire_Unbox.j0 k l0 true) else (wire_Unbox.j0 k l0 (decide ((l0.length : Int) > 65536)))) = some (r1, r2) := h
  clear h
  have HC2 := Aside0.mk H
  clear H
  go_enter Try.func29, Try.ntmps29
  go_upto_region 1 with (fail)
  repeat (go_quiet (fail); go_upto_region 1 with (fail))
  go_cut [15] (fun v15 wc => ∃ (kq : Nat) (x15_1 : Bool), v15 = .bool x15_1 ∧ Aside0 (wire_Unbox.j0 kq l0 x15_1 = some (r1, r2)) ∧ Aside0 (kq ≤ k) ∧ Aside0 (Below w.heap.size w wc))
  case first =>
    have H := HC2.out
    clear HC2
    by_cases c3 : (l0.length : Int) < 6
    · rw [if_pos c3] at H
      have c3b0 : decide ((l0.length : Int) < 6) = true := decide_eq_true c3
      have c3b1 : decide (l0.length < 6) = true := decide_eq_true (by omega)
      clear c3
      (first | rw [c3b0] | (simp only [i64_w, i32_w]; rw [c3b0]) | skip)
      have H' := Aside0.mk H
      clear H
      go_wp2
      repeat (go_quiet (fail); try go_wp2)
      go_meet
      case rel => exact ⟨_, (true), (by first | rfl | (simp; done) | (simp [*]; done)), H', ⟨by first | omega | exact Nat.le_refl _⟩, ⟨by repeat (first | (with_reducible first | exact HB.out | apply below_alloc | apply pw_below_drewN | apply below_drew1) | exact HB.out)⟩⟩
    · rw [if_neg c3] at H
      have c3b0 : decide ((l0.length : Int) < 6) = false := decide_eq_false c3
      have c3b1 : decide (l0.length < 6) = false := decide_eq_false (by omega)
      clear c3
      (first | rw [c3b0] | (simp only [i64_w, i32_w]; rw [c3b0]) | skip)
      have H' := Aside0.mk H
      clear H
      go_wp2
      repeat (go_quiet (fail); try go_wp2)
      go_meet
      case rel => exact ⟨_, (decide ((l0.length : Int) > 65536)), (by first | rfl | (simp; done) | (simp [*]; done)), H', ⟨by first | omega | exact Nat.le_refl _⟩, ⟨by repeat (first | (with_reducible first | exact HB.out | apply below_alloc | apply pw_below_drewN | apply below_drew1) | exact HB.out)⟩⟩
  case rest =>
    clear HC2
    try clear c2
    try clear p2
    try clear c3
    try clear c3b0
    try clear c3b1
    obtain ⟨kq, x15_1, rfl, HA, HJ1, HB⟩ := hcut
    cases kq with
    | zero => exact absurd HA.out (by simp [wire_Unbox.j0])
    | succ kj1 =>
      have H := HA.out
      clear HA
      simp only [wire_Unbox.j0] at H
      by_cases c4 : x15_1 = true
      · subst c4
        have H1 : (some (([] : List Int), some 4)) = some (r1, r2) := by rw [if_pos rfl] at H; exact H
        clear H
        have H := H1
        clear H1
        simp only [Option.some.injEq, Prod.mk.injEq] at H
        obtain ⟨rfl, rfl⟩ := H
        go_wp2
        repeat (go_quiet (fail); try go_wp2)
        go_ret2
        exact ⟨_, by first | rfl | (simp [errW_none, errW_some] <;> rfl) | (simp [*, errW_none, errW_some] <;> rfl), by first | exact Kd.R_nil _ _ _ _ _ | exact Kd.N_nil _ _ _ _ _ | exact Kd.V_nil _ _ _ _ _ | exact Kd.Q_nil _ _ _ _ _ | exact Kd.S_nil _ _ _ _ _, by repeat (first | (with_reducible first | exact HB.out | apply below_alloc | apply pw_below_drewN | apply below_drew1) | exact HB.out)⟩
      · replace c4 := Bool.eq_false_iff.mpr c4
        subst c4
        have H1 : (if 4 < (l0.length : Int) then (if 5 < (l0.length : Int) then (if (Go.bits .or .i64 (wrap64 ((wrap64 (rd l0 4)) * 256)) (wrap64 (rd l0 5))) > (wrap64 ((l0.length : Int) - 6)) then (some (([] : List Int), some 4)) else (if 6 ≤ (wrap64 (6 + (Go.bits .or .i64 (wrap64 ((wrap64 (rd l0 4)) * 256)) (wrap64 (rd l0 5))))) then (if (wrap64 (6 + (Go.bits .or .i64 (wrap64 ((wrap64 (rd l0 4)) * 256)) (wrap64 (rd l0 5))))) ≤ (l0.length : Int) then ((slices_Clone_byte_byte.f ((l0.take ((wrap64 (6 + (Go.bits .or .i64 (wrap64 ((wrap64 (rd l0 4)) * 256)) (wrap64 (rd l0 5))))) : Int).toNat).drop 6)).bind fun t269 => ((wire_Box.f kj1 (l0.length : Int) (([t269] : List (List Int)))).bind fun bt275 => (if bt275.2.isNone = true then ((bytes_Equal.f bt275.1 l0).bind fun t280 => (if t280 = true then (some (t269, none)) else (some (([] : List Int), some 4)))) else (some (([] : List Int), some 4))))) else (none)) else (none))) else (none)) else (none)) = some (r1, r2) := by rw [if_neg (show ¬ (false = true) by decide)] at H; exact H
        clear H
        have H := H1
        clear H1
        by_cases c5 : 4 < (l0.length : Int)
        · rw [if_pos c5] at H
          have c5b0 : decide (4 < (l0.length : Int)) = true := decide_eq_true c5
          have c5b1 : decide (4 < l0.length) = true := decide_eq_true (by omega)
          clear c5
          by_cases c6 : 5 < (l0.length : Int)
          · rw [if_pos c6] at H
            have c6b0 : decide (5 < (l0.length : Int)) = true := decide_eq_true c6
            have c6b1 : decide (5 < l0.length) = true := decide_eq_true (by omega)
            clear c6
            by_cases c7 : (Go.bits .or .i64 (wrap64 ((wrap64 (rd l0 4)) * 256)) (wrap64 (rd l0 5))) > (wrap64 ((l0.length : Int) - 6))
            · rw [if_pos c7] at H
              have c7b0 : decide ((wrap64 ((l0.length : Int) - 6)) < (Go.bits .or .i64 (wrap64 ((wrap64 (rd l0 4)) * 256)) (wrap64 (rd l0 5)))) = true := decide_eq_true c7
              clear c7
              simp only [Option.some.injEq, Prod.mk.injEq] at H
              obtain ⟨rfl, rfl⟩ := H
              have p266 : 0 ≤ (4 : Int) := (by omega)
              have q266 : 4 < (l0.length : Int) := of_decide_eq_true (by first | (with_reducible assumption) | assumption)
              obtain ⟨ad266, e266, hx266_0⟩ := Kd.at_int HR0.out 4 p266 q266
              cases e266
              (try simp only [show (4 : Int).toNat = 4 from rfl, Nat.reduceMul, Nat.reduceEqDiff, Go.Addr.add, ↓reduceIte] at hx266_0)
              have qi266 : (4 < l0.length) = True := eq_true (by omega)
              (try rw [show ((4 : Int)).toNat = 4 from rfl] at hx266_0)
              replace hx266_0 := (HB.out.cell (World.block_lt_of_cell? w _ hx266_0)).trans hx266_0
              replace p266 := eq_true p266
              replace q266 := eq_true q266
              have p267 : 0 ≤ (5 : Int) := (by omega)
              have q267 : 5 < (l0.length : Int) := of_decide_eq_true (by first | (with_reducible assumption) | assumption)
              obtain ⟨ad267, e267, hx267_0⟩ := Kd.at_int HR0.out 5 p267 q267
              obtain rfl : ad266 = ad267 := (by injection e267)
              (try simp only [show (5 : Int).toNat = 5 from rfl, Nat.reduceMul, Nat.reduceEqDiff, Go.Addr.add, ↓reduceIte] at hx267_0)
              have qi267 : (5 < l0.length) = True := eq_true (by omega)
              (try rw [show ((5 : Int)).toNat = 5 from rfl] at hx267_0)
              replace hx267_0 := (HB.out.cell (World.block_lt_of_cell? w _ hx267_0)).trans hx267_0
              replace p267 := eq_true p267
              replace q267 := eq_true q267
              go_wp2
              repeat (go_quiet (fail); try go_wp2)
              go_ret2
              exact ⟨_, by first | rfl | (simp [errW_none, errW_some] <;> rfl) | (simp [*, errW_none, errW_some] <;> rfl), by first | exact Kd.R_nil _ _ _ _ _ | exact Kd.N_nil _ _ _ _ _ | exact Kd.V_nil _ _ _ _ _ | exact Kd.Q_nil _ _ _ _ _ | exact Kd.S_nil _ _ _ _ _, by repeat (first | (with_reducible first | exact HB.out | apply below_alloc | apply pw_below_drewN | apply below_drew1) | exact HB.out)⟩
            · rw [if_neg c7] at H
              have c7b0 : decide ((wrap64 ((l0.length : Int) - 6)) < (Go.bits .or .i64 (wrap64 ((wrap64 (rd l0 4)) * 256)) (wrap64 (rd l0 5)))) = false := decide_eq_false c7
              clear c7
              by_cases c8 : 6 ≤ (wrap64 (6 + (Go.bits .or .i64 (wrap64 ((wrap64 (rd l0 4)) * 256)) (wrap64 (rd l0 5)))))
              · rw [if_pos c8] at H
                have c8b0 := eq_true c8
                have c8b1 : decide (6 ≤ (wrap64 (6 + (Go.bits .or .i64 (wrap64 ((wrap64 (rd l0 4)) * 256)) (wrap64 (rd l0 5)))))) = true := decide_eq_true c8
                by_cases c9 : (wrap64 (6 + (Go.bits .or .i64 (wrap64 ((wrap64 (rd l0 4)) * 256)) (wrap64 (rd l0 5))))) ≤ (l0.length : Int)
                · rw [if_pos c9] at H
                  have c9b0 := eq_true c9
                  have c9b1 : decide ((wrap64 (6 + (Go.bits .or .i64 (wrap64 ((wrap64 (rd l0 4)) * 256)) (wrap64 (rd l0 5))))) ≤ (l0.length : Int)) = true := decide_eq_true c9
                  replace H := Option.bind_eq_some_iff.mp H
                  obtain ⟨t269, A100, H⟩ := H
                  replace H : ((wire_Box.f kj1 (l0.length : Int) (([t269] : List (List Int)))).bind fun bt275 => (if bt275.2.isNone = true then ((bytes_Equal.f bt275.1 l0).bind fun t280 => (if t280 = true then (some (t269, none)) else (some (([] : List Int), some 4)))) else (some (([] : List Int), some 4)))) = some (r1, r2) := H
                  have A10 := Aside0.mk A100
                  clear A100
                  obtain ⟨y272, hy272⟩ : ∃ y_ : List (List Int), y_ = (([t269] : List (List Int))) := ⟨_, rfl⟩
                  replace H : ((wire_Box.f kj1 (l0.length : Int) y272).bind fun bt275 => (if bt275.2.isNone = true then ((bytes_Equal.f bt275.1 l0).bind fun t280 => (if t280 = true then (some (t269, none)) else (some (([] : List Int), some 4)))) else (some (([] : List Int), some 4)))) = some (r1, r2) := by first | (rw [hy272]; with_reducible exact H) | (have H2_ := (Option.bind_some _ _).symm.trans H; rw [hy272]; with_reducible exact H2_) | (have H2_ := (Option.bind_some _ _).symm.trans H; with_reducible exact H2_) | with_reducible exact H | (rw [hy272]; exact H) | exact H
                  have Ny272 := Aside0.mk hy272
                  clear hy272
                  replace H := Option.bind_eq_some_iff.mp H
                  obtain ⟨⟨t275, t276⟩, A110, H⟩ := H
                  replace H : (if t276.isNone = true then ((bytes_Equal.f t275 l0).bind fun t280 => (if t280 = true then (some (t269, none)) else (some (([] : List Int), some 4)))) else (some (([] : List Int), some 4))) = some (r1, r2) := H
                  have A11 := Aside0.mk A110
                  clear A110
                  rcases t276 with _ | q279
                  · have H1 : ((bytes_Equal.f t275 l0).bind fun t280 => (if t280 = true then (some (t269, none)) else (some (([] : List Int), some 4)))) = some (r1, r2) := by rw [if_pos (show (none : Option Int).isNone = true by rfl)] at H; exact H
                    clear H
                    have H := H1
                    clear H1
                    try simp only [errW_none, errW_some]
                    replace H := Option.bind_eq_some_iff.mp H
                    obtain ⟨t280, A120, H⟩ := H
                    replace H : (if t280 = true then (some (t269, none)) else (some (([] : List Int), some 4))) = some (r1, r2) := H
                    have A12 := Aside0.mk A120
                    clear A120
                    by_cases c13 : t280 = true
                    · subst c13
                      have H1 : (some (t269, none)) = some (r1, r2) := by rw [if_pos rfl] at H; exact H
                      clear H
                      have H := H1
                      clear H1
                      simp only [Option.some.injEq, Prod.mk.injEq] at H
                      obtain ⟨rfl, rfl⟩ := H
                      have p266 : 0 ≤ (4 : Int) := (by omega)
                      have q266 : 4 < (l0.length : Int) := of_decide_eq_true (by first | (with_reducible assumption) | assumption)
                      obtain ⟨ad266, e266, hx266_0⟩ := Kd.at_int HR0.out 4 p266 q266
                      cases e266
                      (try simp only [show (4 : Int).toNat = 4 from rfl, Nat.reduceMul, Nat.reduceEqDiff, Go.Addr.add, ↓reduceIte] at hx266_0)
                      have qi266 : (4 < l0.length) = True := eq_true (by omega)
                      (try rw [show ((4 : Int)).toNat = 4 from rfl] at hx266_0)
                      replace hx266_0 := (HB.out.cell (World.block_lt_of_cell? w _ hx266_0)).trans hx266_0
                      replace p266 := eq_true p266
                      replace q266 := eq_true q266
                      have p267 : 0 ≤ (5 : Int) := (by omega)
                      have q267 : 5 < (l0.length : Int) := of_decide_eq_true (by first | (with_reducible assumption) | assumption)
                      obtain ⟨ad267, e267, hx267_0⟩ := Kd.at_int HR0.out 5 p267 q267
                      obtain rfl : ad266 = ad267 := (by injection e267)
                      (try simp only [show (5 : Int).toNat = 5 from rfl, Nat.reduceMul, Nat.reduceEqDiff, Go.Addr.add, ↓reduceIte] at hx267_0)
                      have qi267 : (5 < l0.length) = True := eq_true (by omega)
                      (try rw [show ((5 : Int)).toNat = 5 from rfl] at hx267_0)
                      replace hx267_0 := (HB.out.cell (World.block_lt_of_cell? w _ hx267_0)).trans hx267_0
                      replace p267 := eq_true p267
                      replace q267 := eq_true q267
                      obtain ⟨i014, hi014, _, hsz14, _⟩ := info_parts info5
                      obtain ⟨A14, hcut14, hA14, hC14⟩ := print_mid_of (P := Try.prog) (Value.int .u8) 0 22 5 .i64 .i64 Try.underlying22 hi014 hsz14 (some ad266) c0 l0 6 (wrap64 (6 + (Go.bits .or .i64 (wrap64 ((wrap64 (rd l0 4)) * 256)) (wrap64 (rd l0 5))))) (by omega) (by first | omega | exact of_decide_eq_true (by first | (with_reducible assumption) | assumption)) (of_decide_eq_true (by first | (with_reducible assumption) | assumption)) HC0.out
                      have HR268 := Aside0.mk (Kd.C_of_reads (h1 := fun _ => rfl) (hA14 _ (Kd.reads_of_C HR0.out)))
                      have HC268 := Aside0.mk hC14
                      clear hA14 hC14 hi014 hsz14
                      simp only [show (6 : Int).toNat = 6 from rfl] at hcut14 HR268 HC268
                      generalize (l0.take ((wrap64 (6 + (Go.bits .or .i64 (wrap64 ((wrap64 (rd l0 4)) * 256)) (wrap64 (rd l0 5))))) : Int).toNat).drop 6 = l6 at hcut14 HR268 HC268 A10
                      go_wp2
                      go_quiet (fail)
                      go_wp2_with (first | (go_at_call 50; ((with_reducible refine (slices_Clone_byte_byte.calls _ _ l6 t269 _ ?side1 ?side2 A10.out).mono ?_); (case side1 => exact Kd.C_drewN (Kd.C_below HR268.out HB.out) _); (case side2 => exact HC268.out); rintro e w15 ⟨v270, rfl, ho0, hb⟩; have HO271 := Aside0.mk (Kd.R_lower ho0 (below_size (pw_below_drewN HB.out _))); have HB15 := Aside0.mk (below_step (pw_below_drewN HB.out _) hb); clear ho0 hb; obtain ⟨Ao16, co16, eo16⟩ := Kd.R_slice HO271.out; subst eo16)) | ((with_reducible refine gate_dst (N := 42) rfl ?_); refine Kd.R_lit (w0 := w) (Kd.slice 5 (Kd.int .u8)) w.heap.size 22 ?hg (N := 42) ?hd (xs := [t269]) (inner := [.slice Ao16 t269.length co16]) (ok := fun _ => True) (okp := fun _ => True) ?hr ?hp (fun _ hk => hk) trivial HB15.out (below_size HB15.out) (by simp) ?_; (case hd => rfl); (case hg => rfl); (case hr => first | (go_simp; done) | (go_simp; rfl)); (case hp => exact Reps.one ⟨_, rfl, HO271.out⟩ (Reps.none _ _)); intro v273 w17 ho18 hb hg_ hnew_; rw [← Ny272.out] at ho18; have HO274 := Aside0.mk ho18; have HB17 := Aside0.mk hb; have HO271' := Aside0.mk (Kd.R_grown HO271.out hg_ (fun _ _ hk => by cases hk)); clear ho18 hb hg_ hnew_; obtain ⟨Ao19, co19, eo19⟩ := Kd.R_slice HO274.out; subst eo19) | (go_at_call 26; ((with_reducible refine (wire_Box.calls kj1 (l0.length : Int) _ _ y272 t275 none _ ?side1 ?side2 A11.out).mono ?_); (case side1 => exact (Kd.R_reads' HO274.out).2.2); (case side2 => exact (Kd.R_reads' HO274.out).2.1); rintro e w20 ⟨v277, rfl, ho0, hb⟩; have HO278 := Aside0.mk ho0; have HO271'' := Aside0.mk (Kd.R_below HO271'.out hb); have HB20 := Aside0.mk (below_step HB17.out hb); clear ho0 hb; (try simp only [errW_none, errW_some]); obtain ⟨Ao21, co21, eo21⟩ := Kd.R_slice HO278.out; subst eo21)) | (go_at_call 52; (with_reducible refine (bytes_Equal.calls _ _ t275 _ _ l0 true _ ?side1 ?side2 ?side3 ?side4 A12.out).mono ?_); (case side1 => exact (Kd.R_reads' HO278.out).2.2); (case side2 => exact (Kd.R_reads' HO278.out).2.1); (case side3 => exact Kd.C_below HR0.out HB20.out); (case side4 => exact HC0.out); rintro e w' ⟨rfl, ⟨nd, rfl⟩⟩))
                      go_ret2
                      exact ⟨_, rfl, Kd.R_drewN HO271''.out _, pw_below_drewN HB20.out _⟩
                    · replace c13 := Bool.eq_false_iff.mpr c13
                      subst c13
                      have H1 : (some (([] : List Int), some 4)) = some (r1, r2) := by rw [if_neg (show ¬ (false = true) by decide)] at H; exact H
                      clear H
                      have H := H1
                      clear H1
                      simp only [Option.some.injEq, Prod.mk.injEq] at H
                      obtain ⟨rfl, rfl⟩ := H
                      have p266 : 0 ≤ (4 : Int) := (by omega)
                      have q266 : 4 < (l0.length : Int) := of_decide_eq_true (by first | (with_reducible assumption) | assumption)
                      obtain ⟨ad266, e266, hx266_0⟩ := Kd.at_int HR0.out 4 p266 q266
                      cases e266
                      (try simp only [show (4 : Int).toNat = 4 from rfl, Nat.reduceMul, Nat.reduceEqDiff, Go.Addr.add, ↓reduceIte] at hx266_0)
                      have qi266 : (4 < l0.length) = True := eq_true (by omega)
                      (try rw [show ((4 : Int)).toNat = 4 from rfl] at hx266_0)
                      replace hx266_0 := (HB.out.cell (World.block_lt_of_cell? w _ hx266_0)).trans hx266_0
                      replace p266 := eq_true p266
                      replace q266 := eq_true q266
                      have p267 : 0 ≤ (5 : Int) := (by omega)
                      have q267 : 5 < (l0.length : Int) := of_decide_eq_true (by first | (with_reducible assumption) | assumption)
                      obtain ⟨ad267, e267, hx267_0⟩ := Kd.at_int HR0.out 5 p267 q267
                      obtain rfl : ad266 = ad267 := (by injection e267)
                      (try simp only [show (5 : Int).toNat = 5 from rfl, Nat.reduceMul, Nat.reduceEqDiff, Go.Addr.add, ↓reduceIte] at hx267_0)
                      have qi267 : (5 < l0.length) = True := eq_true (by omega)
                      (try rw [show ((5 : Int)).toNat = 5 from rfl] at hx267_0)
                      replace hx267_0 := (HB.out.cell (World.block_lt_of_cell? w _ hx267_0)).trans hx267_0
                      replace p267 := eq_true p267
                      replace q267 := eq_true q267
                      obtain ⟨i022, hi022, _, hsz22, _⟩ := info_parts info5
                      obtain ⟨A22, hcut22, hA22, hC22⟩ := print_mid_of (P := Try.prog) (Value.int .u8) 0 22 5 .i64 .i64 Try.underlying22 hi022 hsz22 (some ad266) c0 l0 6 (wrap64 (6 + (Go.bits .or .i64 (wrap64 ((wrap64 (rd l0 4)) * 256)) (wrap64 (rd l0 5))))) (by omega) (by first | omega | exact of_decide_eq_true (by first | (with_reducible assumption) | assumption)) (of_decide_eq_true (by first | (with_reducible assumption) | assumption)) HC0.out
                      have HR268 := Aside0.mk (Kd.C_of_reads (h1 := fun _ => rfl) (hA22 _ (Kd.reads_of_C HR0.out)))
                      have HC268 := Aside0.mk hC22
                      clear hA22 hC22 hi022 hsz22
                      simp only [show (6 : Int).toNat = 6 from rfl] at hcut22 HR268 HC268
                      generalize (l0.take ((wrap64 (6 + (Go.bits .or .i64 (wrap64 ((wrap64 (rd l0 4)) * 256)) (wrap64 (rd l0 5))))) : Int).toNat).drop 6 = l6 at hcut22 HR268 HC268 A10
                      go_wp2
                      go_quiet (fail)
                      go_wp2_with (first | (go_at_call 50; ((with_reducible refine (slices_Clone_byte_byte.calls _ _ l6 t269 _ ?side1 ?side2 A10.out).mono ?_); (case side1 => exact Kd.C_drewN (Kd.C_below HR268.out HB.out) _); (case side2 => exact HC268.out); rintro e w15 ⟨v270, rfl, ho0, hb⟩; have HO271 := Aside0.mk (Kd.R_lower ho0 (below_size (pw_below_drewN HB.out _))); have HB15 := Aside0.mk (below_step (pw_below_drewN HB.out _) hb); clear ho0 hb; obtain ⟨Ao16, co16, eo16⟩ := Kd.R_slice HO271.out; subst eo16)) | ((with_reducible refine gate_dst (N := 42) rfl ?_); refine Kd.R_lit (w0 := w) (Kd.slice 5 (Kd.int .u8)) w.heap.size 22 ?hg (N := 42) ?hd (xs := [t269]) (inner := [.slice Ao16 t269.length co16]) (ok := fun _ => True) (okp := fun _ => True) ?hr ?hp (fun _ hk => hk) trivial HB15.out (below_size HB15.out) (by simp) ?_; (case hd => rfl); (case hg => rfl); (case hr => first | (go_simp; done) | (go_simp; rfl)); (case hp => exact Reps.one ⟨_, rfl, HO271.out⟩ (Reps.none _ _)); intro v273 w17 ho18 hb hg_ hnew_; rw [← Ny272.out] at ho18; have HO274 := Aside0.mk ho18; have HB17 := Aside0.mk hb; have HO271' := Aside0.mk (Kd.R_grown HO271.out hg_ (fun _ _ hk => by cases hk)); clear ho18 hb hg_ hnew_; obtain ⟨Ao19, co19, eo19⟩ := Kd.R_slice HO274.out; subst eo19) | (go_at_call 26; ((with_reducible refine (wire_Box.calls kj1 (l0.length : Int) _ _ y272 t275 none _ ?side1 ?side2 A11.out).mono ?_); (case side1 => exact (Kd.R_reads' HO274.out).2.2); (case side2 => exact (Kd.R_reads' HO274.out).2.1); rintro e w20 ⟨v277, rfl, ho0, hb⟩; have HO278 := Aside0.mk ho0; have HO271'' := Aside0.mk (Kd.R_below HO271'.out hb); have HB20 := Aside0.mk (below_step HB17.out hb); clear ho0 hb; (try simp only [errW_none, errW_some]); obtain ⟨Ao21, co21, eo21⟩ := Kd.R_slice HO278.out; subst eo21)) | (go_at_call 52; (with_reducible refine (bytes_Equal.calls _ _ t275 _ _ l0 false _ ?side1 ?side2 ?side3 ?side4 A12.out).mono ?_); (case side1 => exact (Kd.R_reads' HO278.out).2.2); (case side2 => exact (Kd.R_reads' HO278.out).2.1); (case side3 => exact Kd.C_below HR0.out HB20.out); (case side4 => exact HC0.out); rintro e w' ⟨rfl, ⟨nd, rfl⟩⟩))
                      go_ret2
                      exact ⟨_, rfl, Kd.R_nil _ _ _ _ _, pw_below_drewN HB20.out _⟩
                  · have H1 : (some (([] : List Int), some 4)) = some (r1, r2) := by rw [if_neg (show ¬ (some q279).isNone = true by simp)] at H; exact H
                    clear H
                    have H := H1
                    clear H1
                    try simp only [errW_none, errW_some]
                    simp only [Option.some.injEq, Prod.mk.injEq] at H
                    obtain ⟨rfl, rfl⟩ := H
                    have p266 : 0 ≤ (4 : Int) := (by omega)
                    have q266 : 4 < (l0.length : Int) := of_decide_eq_true (by first | (with_reducible assumption) | assumption)
                    obtain ⟨ad266, e266, hx266_0⟩ := Kd.at_int HR0.out 4 p266 q266
                    cases e266
                    (try simp only [show (4 : Int).toNat = 4 from rfl, Nat.reduceMul, Nat.reduceEqDiff, Go.Addr.add, ↓reduceIte] at hx266_0)
                    have qi266 : (4 < l0.length) = True := eq_true (by omega)
                    (try rw [show ((4 : Int)).toNat = 4 from rfl] at hx266_0)
                    replace hx266_0 := (HB.out.cell (World.block_lt_of_cell? w _ hx266_0)).trans hx266_0
                    replace p266 := eq_true p266
                    replace q266 := eq_true q266
                    have p267 : 0 ≤ (5 : Int) := (by omega)
                    have q267 : 5 < (l0.length : Int) := of_decide_eq_true (by first | (with_reducible assumption) | assumption)
                    obtain ⟨ad267, e267, hx267_0⟩ := Kd.at_int HR0.out 5 p267 q267
                    obtain rfl : ad266 = ad267 := (by injection e267)
                    (try simp only [show (5 : Int).toNat = 5 from rfl, Nat.reduceMul, Nat.reduceEqDiff, Go.Addr.add, ↓reduceIte] at hx267_0)
                    have qi267 : (5 < l0.length) = True := eq_true (by omega)
                    (try rw [show ((5 : Int)).toNat = 5 from rfl] at hx267_0)
                    replace hx267_0 := (HB.out.cell (World.block_lt_of_cell? w _ hx267_0)).trans hx267_0
                    replace p267 := eq_true p267
                    replace q267 := eq_true q267
                    obtain ⟨i030, hi030, _, hsz30, _⟩ := info_parts info5
                    obtain ⟨A30, hcut30, hA30, hC30⟩ := print_mid_of (P := Try.prog) (Value.int .u8) 0 22 5 .i64 .i64 Try.underlying22 hi030 hsz30 (some ad266) c0 l0 6 (wrap64 (6 + (Go.bits .or .i64 (wrap64 ((wrap64 (rd l0 4)) * 256)) (wrap64 (rd l0 5))))) (by omega) (by first | omega | exact of_decide_eq_true (by first | (with_reducible assumption) | assumption)) (of_decide_eq_true (by first | (with_reducible assumption) | assumption)) HC0.out
                    have HR268 := Aside0.mk (Kd.C_of_reads (h1 := fun _ => rfl) (hA30 _ (Kd.reads_of_C HR0.out)))
                    have HC268 := Aside0.mk hC30
                    clear hA30 hC30 hi030 hsz30
                    simp only [show (6 : Int).toNat = 6 from rfl] at hcut30 HR268 HC268
                    generalize (l0.take ((wrap64 (6 + (Go.bits .or .i64 (wrap64 ((wrap64 (rd l0 4)) * 256)) (wrap64 (rd l0 5))))) : Int).toNat).drop 6 = l6 at hcut30 HR268 HC268 A10
                    go_wp2
                    go_quiet (fail)
                    go_wp2_with (first | (go_at_call 50; ((with_reducible refine (slices_Clone_byte_byte.calls _ _ l6 t269 _ ?side1 ?side2 A10.out).mono ?_); (case side1 => exact Kd.C_drewN (Kd.C_below HR268.out HB.out) _); (case side2 => exact HC268.out); rintro e w15 ⟨v270, rfl, ho0, hb⟩; have HO271 := Aside0.mk (Kd.R_lower ho0 (below_size (pw_below_drewN HB.out _))); have HB15 := Aside0.mk (below_step (pw_below_drewN HB.out _) hb); clear ho0 hb; obtain ⟨Ao16, co16, eo16⟩ := Kd.R_slice HO271.out; subst eo16)) | ((with_reducible refine gate_dst (N := 42) rfl ?_); refine Kd.R_lit (w0 := w) (Kd.slice 5 (Kd.int .u8)) w.heap.size 22 ?hg (N := 42) ?hd (xs := [t269]) (inner := [.slice Ao16 t269.length co16]) (ok := fun _ => True) (okp := fun _ => True) ?hr ?hp (fun _ hk => hk) trivial HB15.out (below_size HB15.out) (by simp) ?_; (case hd => rfl); (case hg => rfl); (case hr => first | (go_simp; done) | (go_simp; rfl)); (case hp => exact Reps.one ⟨_, rfl, HO271.out⟩ (Reps.none _ _)); intro v273 w17 ho18 hb hg_ hnew_; rw [← Ny272.out] at ho18; have HO274 := Aside0.mk ho18; have HB17 := Aside0.mk hb; have HO271' := Aside0.mk (Kd.R_grown HO271.out hg_ (fun _ _ hk => by cases hk)); clear ho18 hb hg_ hnew_; obtain ⟨Ao19, co19, eo19⟩ := Kd.R_slice HO274.out; subst eo19) | (go_at_call 26; ((with_reducible refine (wire_Box.calls kj1 (l0.length : Int) _ _ y272 t275 (some q279) _ ?side1 ?side2 A11.out).mono ?_); (case side1 => exact (Kd.R_reads' HO274.out).2.2); (case side2 => exact (Kd.R_reads' HO274.out).2.1); rintro e w20 ⟨v277, rfl, ho0, hb⟩; have HO278 := Aside0.mk ho0; have HO271'' := Aside0.mk (Kd.R_below HO271'.out hb); have HB20 := Aside0.mk (below_step HB17.out hb); clear ho0 hb; (try simp only [errW_none, errW_some]); obtain ⟨Ao21, co21, eo21⟩ := Kd.R_slice HO278.out; subst eo21)))
                    go_ret2
                    exact ⟨_, rfl, Kd.R_nil _ _ _ _ _, HB20.out⟩
                · rw [if_neg c9] at H
                  exact absurd H (by simp)
              · rw [if_neg c8] at H
                exact absurd H (by simp)
          · rw [if_neg c6] at H
            exact absurd H (by simp)
        · rw [if_neg c5] at H
          exact absurd H (by simp)

end Go.Proofs.Ytbphmpncajfaiaa.Py
-- begun as a text of the kit's print.py, mended by hand
namespace Go.Proofs.Ytbphmpncajfaiaa.Py
open Go.RowKit Go.Proofs.YtbphmpncajfaiaaW.PrintWords Go.Proofs.YtbphmpncajfaiaaW.PrintLast Go.Proofs.YtbphmpncajfaiaaW.PrintMore
attribute [local go_sem] max2_int min2_int max_two min_two max_three min_three max_four min_four   -- for this text's walks alone
set_option linter.unusedVariables false
set_option linter.unusedSimpArgs false

/-! ### wire_take: function 53 -/
mutual
def wire_take.l0 : Nat → Int → List Int → Int → Int → Option (Int × Int)
  | 0, _, _, _, _ => none
  | k + 1, x4, x11, x12, x13 => if x13 < x12 then (if 0 ≤ x13 then (if x13 < (x11.length : Int) then (if x13 = 9 then (wire_take.j1 k x4 x13 (rd x11 x13) x11 x12 x13 (decide ((rd x11 x13) > 1))) else (wire_take.j1 k x4 x13 (rd x11 x13) x11 x12 x13 false)) else (none)) else (none)) else (some (0, 0))
def wire_take.j1 : Nat → Int → Int → Int → List Int → Int → Int → Bool → Option (Int × Int)
  | 0, _, _, _, _, _, _, _ => none
  | k + 1, x4, x5, x6, x11, x12, x13, x23 => if x23 = true then (some (0, 0)) else (if 0 ≤ (wrap64 (7 * x5)) then (if x6 < 128 then (if x6 = 0 then (if x5 > 0 then (some (0, 0)) else (some (Go.bits .xor .i64 (wrap64 ((Go.bits .or .u64 x4 (shl .u64 (IntKind.u64.wrap (Go.bits .and .u8 x6 127)) (wrap64 (7 * x5)))) / 2)) (wrap64 (-(wrap64 (Go.bits .and .u64 (Go.bits .or .u64 x4 (shl .u64 (IntKind.u64.wrap (Go.bits .and .u8 x6 127)) (wrap64 (7 * x5)))) 1)))), wrap64 (x5 + 1)))) else (some (Go.bits .xor .i64 (wrap64 ((Go.bits .or .u64 x4 (shl .u64 (IntKind.u64.wrap (Go.bits .and .u8 x6 127)) (wrap64 (7 * x5)))) / 2)) (wrap64 (-(wrap64 (Go.bits .and .u64 (Go.bits .or .u64 x4 (shl .u64 (IntKind.u64.wrap (Go.bits .and .u8 x6 127)) (wrap64 (7 * x5)))) 1)))), wrap64 (x5 + 1)))) else (wire_take.l0 k (Go.bits .or .u64 x4 (shl .u64 (IntKind.u64.wrap (Go.bits .and .u8 x6 127)) (wrap64 (7 * x5)))) x11 x12 (wrap64 (x13 + 1)))) else (none))
end
def wire_take.f (k : Nat) (l0 : List Int) : Option (Int × Int) := if 0 ≤ (mn (l0.length : Int) 10) then (if (mn (l0.length : Int) 10) ≤ (l0.length : Int) then (wire_take.l0 k 0 (l0.take ((mn (l0.length : Int) 10) : Int).toNat) ((l0.take ((mn (l0.length : Int) 10) : Int).toNat).length : Int) 0) else (none)) else (none)
theorem wire_take.mono_l : ∀ k, (∀ y0 y1 y2 y3, LeO (wire_take.l0 k y0 y1 y2 y3) (wire_take.l0 (k + 1) y0 y1 y2 y3)) ∧ (∀ y0 y1 y2 y3 y4 y5 y6, LeO (wire_take.j1 k y0 y1 y2 y3 y4 y5 y6) (wire_take.j1 (k + 1) y0 y1 y2 y3 y4 y5 y6))
  | 0 => ⟨fun _ _ _ _ r h => by simp [wire_take.l0] at h, fun _ _ _ _ _ _ _ r h => by simp [wire_take.j1] at h⟩
  | k + 1 => by
    obtain ⟨ih0, ih1⟩ := wire_take.mono_l k
    refine ⟨?_, ?_⟩
    · intro y0 y1 y2 y3
      unfold wire_take.l0
      repeat' first
      | (with_reducible exact ih0 _ _ _ _)
      | (with_reducible exact ih1 _ _ _ _ _ _ _)
      | (with_reducible exact LeO.refl _)
      | (with_reducible exact LeO.none _)
      | (with_reducible refine LeO.ite ?_ ?_)
      | (with_reducible refine LeO.bind ?_ (fun _ => ?_))
      | exact ih0 _ _ _ _
      | exact ih1 _ _ _ _ _ _ _
      | exact LeO.none _
      | refine LeO.ite ?_ ?_
      | refine LeO.bind ?_ (fun _ => ?_)
    · intro y0 y1 y2 y3 y4 y5 y6
      unfold wire_take.j1
      repeat' first
      | (with_reducible exact ih0 _ _ _ _)
      | (with_reducible exact ih1 _ _ _ _ _ _ _)
      | (with_reducible exact LeO.refl _)
      | (with_reducible exact LeO.none _)
      | (with_reducible refine LeO.ite ?_ ?_)
      | (with_reducible refine LeO.bind ?_ (fun _ => ?_))
      | exact ih0 _ _ _ _
      | exact ih1 _ _ _ _ _ _ _
      | exact LeO.none _
      | refine LeO.ite ?_ ?_
      | refine LeO.bind ?_ (fun _ => ?_)
theorem wire_take.mono : ∀ a0 k, LeO (wire_take.f k a0) (wire_take.f (k + 1) a0) := by
  intro a0 k
  obtain ⟨ih0, ih1⟩ := wire_take.mono_l k
  unfold wire_take.f
  repeat' first
      | (with_reducible exact ih0 _ _ _ _)
      | (with_reducible exact ih1 _ _ _ _ _ _ _)
      | (with_reducible exact LeO.refl _)
      | (with_reducible exact LeO.none _)
      | (with_reducible refine LeO.ite ?_ ?_)
      | (with_reducible refine LeO.bind ?_ (fun _ => ?_))
      | exact ih0 _ _ _ _
      | exact ih1 _ _ _ _ _ _ _
      | exact LeO.none _
      | refine LeO.ite ?_ ?_
      | refine LeO.bind ?_ (fun _ => ?_)
set_option maxHeartbeats 8000000 in
set_option maxRecDepth 100000 in
theorem wire_take.calls (k : Nat) (A0 : Option Addr) (c0 : Nat) (l0 : List Int) (r1 : Int) (r2 : Int) (w : World) (hr0 : Kd.C (Kd.int .u8) w A0 l0.length l0) (hc0 : l0.length ≤ c0) (h : wire_take.f k l0 = some (r1, r2)) :
    Calls Try.prog 53 #[.slice A0 l0.length c0] w fun e w' => e = .returned (.tuple #[.int .i64 r1, .int .i64 r2]) ∧ Below w.heap.size w w' := by
  have HR0 := Aside0.mk hr0
  have HC0 := Aside0.mk hc0
  clear hr0 hc0
  have HB := Aside0.mk (Below.refl w.heap.size w)
  have H : (if 0 ≤ (mn (l0.length : Int) 10) then (if (mn (l0.length : Int) 10) ≤ (l0.length : Int) then (wire_take.l0 k 0 (l0.take ((mn (l0.length : Int) 10) : Int).toNat) ((l0.take ((mn (l0.length : Int) 10) : Int).toNat).length : Int) 0) else (none)) else (none)) = some (r1, r2) := h
  clear h
  obtain ⟨ji2, hji2⟩ : ∃ j_ : Int, (mn (l0.length : Int) 10) = j_ := ⟨_, rfl⟩
  replace H : (if 0 ≤ (ji2) then (if (ji2) ≤ (l0.length : Int) then (wire_take.l0 k 0 (l0.take ((ji2) : Int).toNat) ((l0.take ((ji2) : Int).toNat).length : Int) 0) else (none)) else (none)) = some (r1, r2) := by first | (rw [hji2] at H; exact H) | (simp only [hji2] at H ⊢; exact H)
  (try (have hji2h : ji2 ≤ 10 := by (rw [← hji2]; unfold mn; (repeat' split) <;> omega)))
  (try (have hji2g : ji2 ≤ 64 := by omega))
  (try (have hji2l : 0 ≤ ji2 := by (rw [← hji2]; unfold mn; (repeat' split) <;> omega)))
  (try (have hji2m : 0 ≤ ji2 := by omega))
  have hji2_ : (if 10 < (l0.length : Int) then 10 else (l0.length : Int)) = ji2 := hji2
  by_cases c3 : 0 ≤ (ji2)
  · rw [if_pos c3] at H
    have c3b0 := eq_true c3
    have c3b1 : decide (0 ≤ (ji2)) = true := decide_eq_true c3
    clear c3
    by_cases c4 : (ji2) ≤ (l0.length : Int)
    · rw [if_pos c4] at H
      have c4b0 := eq_true c4
      have c4b1 : decide ((ji2) ≤ (l0.length : Int)) = true := decide_eq_true c4
      clear c4
      have H' := Aside0.mk H
      clear H
      obtain ⟨i05, hi05, _, hsz5, _⟩ := info_parts info5
      obtain ⟨hcut5, hA5, hC5⟩ := print_take_of (P := Try.prog) (Value.int .u8) 0 22 5 .i64 Try.underlying22 hi05 hsz5 A0 c0 l0 (ji2) (of_decide_eq_true (by first | (with_reducible assumption) | assumption)) (of_decide_eq_true (by first | (with_reducible assumption) | assumption)) HC0.out
      have HR313 := Aside0.mk (Kd.C_of_reads (h1 := fun _ => rfl) (hA5 _ (Kd.reads_of_C HR0.out)))
      have HC313 := Aside0.mk hC5
      clear hA5 hC5 hi05 hsz5
      generalize List.take ji2.toNat l0 = l1 at H' HR313 HC313 hcut5
      go_enter Try.func53, Try.ntmps53
      go_wp2
      go_loopg [4, 13] k (fun kq v4 v13 w' => ∃ (x4_1 : Int) (x13_1 : Int), v4 = .int .u64 x4_1 ∧ v13 = .int .i64 x13_1 ∧ Aside0 (wire_take.l0 kq x4_1 l1 (l1.length : Int) x13_1 = some (r1, r2)) ∧ Aside0 (kq ≤ k) ∧ Aside0 (Below w.heap.size w w'))
      case atStart => exact ⟨(0), (0), (by first | rfl | (simp; done) | (simp [*]; done)), (by first | rfl | (simp; done) | (simp [*]; done)), H', ⟨Nat.le_refl _⟩, ⟨by repeat (first | (with_reducible first | exact HB.out | apply below_alloc | apply pw_below_drewN | apply below_drew1) | exact HB.out)⟩⟩
      case round =>
        clear H'
        try clear p2
        try clear c3
        try clear c3b0
        try clear c3b1
        try clear c4
        try clear c4b0
        try clear c4b1
        try clear c5
        obtain ⟨x4_1, x13_1, rfl, rfl, HA, HK1, HB⟩ := hrel
        cases gk with
        | zero => exact absurd HA.out (by simp [wire_take.l0])
        | succ k1 =>
          have H := HA.out
          clear HA
          simp only [wire_take.l0] at H
          by_cases c6 : x13_1 < (l1.length : Int)
          · rw [if_pos c6] at H
            have c6b0 : decide (x13_1 < (l1.length : Int)) = true := decide_eq_true c6
            clear c6
            by_cases c7 : 0 ≤ x13_1
            · rw [if_pos c7] at H
              have c7b0 : decide (0 ≤ x13_1) = true := decide_eq_true c7
              clear c7
              by_cases c8 : x13_1 < (l1.length : Int)
              · rw [if_pos c8] at H
                have c8b0 : decide (x13_1 < (l1.length : Int)) = true := decide_eq_true c8
                clear c8
                have HC9 := Aside0.mk H
                clear H
                have p314 : 0 ≤ (x13_1 : Int) := of_decide_eq_true (by first | (with_reducible assumption) | assumption)
                have q314 : x13_1 < (l1.length : Int) := of_decide_eq_true (by first | (with_reducible assumption) | assumption)
                obtain ⟨ad314, e314, hx314_0⟩ := Kd.at_int HR313.out x13_1 p314 q314
                cases e314
                replace hx314_0 := (HB.out.cell (World.block_lt_of_cell? w _ hx314_0)).trans hx314_0
                replace p314 := eq_true p314
                replace q314 := eq_true q314
                go_upto_region 5 with (fail)
                go_cut [23] (fun v23 wc => ∃ (kq : Nat) (x23_8 : Bool), v23 = .bool x23_8 ∧ Aside0 (wire_take.j1 kq x4_1 x13_1 (rd l1 x13_1) l1 (l1.length : Int) x13_1 x23_8 = some (r1, r2)) ∧ Aside0 (kq ≤ k1) ∧ Aside0 (Below w.heap.size w wc))
                case first =>
                  have H := HC9.out
                  clear HC9
                  by_cases c10 : x13_1 = 9
                  · rw [if_pos c10] at H
                    have c10b0 : (x13_1 == 9) = true := beq_iff_eq.mpr c10
                    have c10b1 : (x13_1 != 9) = false := bne_eq_false_iff_eq.mpr c10
                    clear c10
                    (first | rw [c10b0] | (simp only [i64_w, i32_w]; rw [c10b0]) | skip)
                    have H' := Aside0.mk H
                    clear H
                    go_wp2
                    go_meet
                    case rel => exact ⟨_, (decide ((rd l1 x13_1) > 1)), (by first | rfl | (simp; done) | (simp only [← hji2] <;> (first | rfl | simp)) | (simp [*]; done)), H', ⟨by have := HK1.out; first | omega | exact Nat.le_refl _⟩, ⟨by repeat (first | (with_reducible first | exact HB.out | apply below_alloc | apply pw_below_drewN | apply below_drew1) | exact HB.out)⟩⟩
                  · rw [if_neg c10] at H
                    have c10b0 : (x13_1 == 9) = false := beq_eq_false_iff_ne.mpr c10
                    have c10b1 : (x13_1 != 9) = true := bne_iff_ne.mpr c10
                    (first | rw [c10b0] | (simp only [i64_w, i32_w]; rw [c10b0]) | skip)
                    have H' := Aside0.mk H
                    clear H
                    go_wp2
                    go_meet
                    case rel => exact ⟨_, (false), (by first | rfl | (simp; done) | (simp [*]; done)), H', ⟨by have := HK1.out; first | omega | exact Nat.le_refl _⟩, ⟨by repeat (first | (with_reducible first | exact HB.out | apply below_alloc | apply pw_below_drewN | apply below_drew1) | exact HB.out)⟩⟩
                case rest =>
                  clear HC9
                  try clear c1
                  try clear p2
                  try clear c3
                  try clear c3b0
                  try clear c3b1
                  try clear p3
                  try clear q3
                  try clear hx3
                  try clear c4
                  try clear c4b0
                  try clear c4b1
                  try clear c5
                  try clear c6
                  try clear c6b0
                  try clear c7
                  try clear c7b0
                  try clear c8
                  try clear c8b0
                  try clear c10
                  try clear c10b0
                  try clear c10b1
                  try clear hx314_0
                  try clear p2
                  try clear p314
                  try clear q314
                  obtain ⟨kq, x23_8, rfl, HA, HJ8, HB⟩ := hcut
                  cases kq with
                  | zero => exact absurd HA.out (by simp [wire_take.j1])
                  | succ kj8 =>
                    have H := HA.out
                    clear HA
                    simp only [wire_take.j1] at H
                    by_cases c11 : x23_8 = true
                    · subst c11
                      have H1 : (some (0, 0)) = some (r1, r2) := by rw [if_pos rfl] at H; exact H
                      clear H
                      have H := H1
                      clear H1
                      simp only [Option.some.injEq, Prod.mk.injEq] at H
                      obtain ⟨rfl, rfl⟩ := H
                      go_wp2
                      go_ret2
                      exact ⟨by first | rfl | (simp [errW_none, errW_some] <;> rfl) | (simp only [← hji2]; first | rfl | (simp [errW_none, errW_some] <;> rfl)) | (simp [*, errW_none, errW_some] <;> rfl), by repeat (first | (with_reducible first | exact HB.out | apply below_alloc | apply pw_below_drewN | apply below_drew1) | exact HB.out)⟩
                    · replace c11 := Bool.eq_false_iff.mpr c11
                      subst c11
                      have H1 : (if 0 ≤ (wrap64 (7 * x13_1)) then (if (rd l1 x13_1) < 128 then (if (rd l1 x13_1) = 0 then (if x13_1 > 0 then (some (0, 0)) else (some (Go.bits .xor .i64 (wrap64 ((Go.bits .or .u64 x4_1 (shl .u64 (IntKind.u64.wrap (Go.bits .and .u8 (rd l1 x13_1) 127)) (wrap64 (7 * x13_1)))) / 2)) (wrap64 (-(wrap64 (Go.bits .and .u64 (Go.bits .or .u64 x4_1 (shl .u64 (IntKind.u64.wrap (Go.bits .and .u8 (rd l1 x13_1) 127)) (wrap64 (7 * x13_1)))) 1)))), wrap64 (x13_1 + 1)))) else (some (Go.bits .xor .i64 (wrap64 ((Go.bits .or .u64 x4_1 (shl .u64 (IntKind.u64.wrap (Go.bits .and .u8 (rd l1 x13_1) 127)) (wrap64 (7 * x13_1)))) / 2)) (wrap64 (-(wrap64 (Go.bits .and .u64 (Go.bits .or .u64 x4_1 (shl .u64 (IntKind.u64.wrap (Go.bits .and .u8 (rd l1 x13_1) 127)) (wrap64 (7 * x13_1)))) 1)))), wrap64 (x13_1 + 1)))) else (wire_take.l0 kj8 (Go.bits .or .u64 x4_1 (shl .u64 (IntKind.u64.wrap (Go.bits .and .u8 (rd l1 x13_1) 127)) (wrap64 (7 * x13_1)))) l1 (l1.length : Int) (wrap64 (x13_1 + 1)))) else (none)) = some (r1, r2) := by rw [if_neg (show ¬ (false = true) by decide)] at H; exact H
                      clear H
                      have H := H1
                      clear H1
                      obtain ⟨ji12, hji12⟩ : ∃ j_ : Int, (wrap64 (7 * x13_1)) = j_ := ⟨_, rfl⟩
                      replace H : (if 0 ≤ (ji12) then (if (rd l1 x13_1) < 128 then (if (rd l1 x13_1) = 0 then (if x13_1 > 0 then (some (0, 0)) else (some (Go.bits .xor .i64 (wrap64 ((Go.bits .or .u64 x4_1 (shl .u64 (IntKind.u64.wrap (Go.bits .and .u8 (rd l1 x13_1) 127)) (ji12))) / 2)) (wrap64 (-(wrap64 (Go.bits .and .u64 (Go.bits .or .u64 x4_1 (shl .u64 (IntKind.u64.wrap (Go.bits .and .u8 (rd l1 x13_1) 127)) (ji12))) 1)))), wrap64 (x13_1 + 1)))) else (some (Go.bits .xor .i64 (wrap64 ((Go.bits .or .u64 x4_1 (shl .u64 (IntKind.u64.wrap (Go.bits .and .u8 (rd l1 x13_1) 127)) (ji12))) / 2)) (wrap64 (-(wrap64 (Go.bits .and .u64 (Go.bits .or .u64 x4_1 (shl .u64 (IntKind.u64.wrap (Go.bits .and .u8 (rd l1 x13_1) 127)) (ji12))) 1)))), wrap64 (x13_1 + 1)))) else (wire_take.l0 kj8 (Go.bits .or .u64 x4_1 (shl .u64 (IntKind.u64.wrap (Go.bits .and .u8 (rd l1 x13_1) 127)) (ji12))) l1 (l1.length : Int) (wrap64 (x13_1 + 1)))) else (none)) = some (r1, r2) := by first | (rw [hji12] at H; exact H) | (simp only [hji12] at H ⊢; exact H)
                      have hji12w : (IntKind.i64.wrap (7 * x13_1)) = ji12 := (i64_w _).trans hji12
                      by_cases c13 : 0 ≤ (ji12)
                      · rw [if_pos c13] at H
                        have c13b0 := eq_true c13
                        have c13b1 : decide (0 ≤ (ji12)) = true := decide_eq_true c13
                        clear c13
                        obtain ⟨ji14, hji14⟩ : ∃ j_ : Int, (shl .u64 (IntKind.u64.wrap (Go.bits .and .u8 (rd l1 x13_1) 127)) (ji12)) = j_ := ⟨_, rfl⟩
                        replace H : (if (rd l1 x13_1) < 128 then (if (rd l1 x13_1) = 0 then (if x13_1 > 0 then (some (0, 0)) else (some (Go.bits .xor .i64 (wrap64 ((Go.bits .or .u64 x4_1 (ji14)) / 2)) (wrap64 (-(wrap64 (Go.bits .and .u64 (Go.bits .or .u64 x4_1 (ji14)) 1)))), wrap64 (x13_1 + 1)))) else (some (Go.bits .xor .i64 (wrap64 ((Go.bits .or .u64 x4_1 (ji14)) / 2)) (wrap64 (-(wrap64 (Go.bits .and .u64 (Go.bits .or .u64 x4_1 (ji14)) 1)))), wrap64 (x13_1 + 1)))) else (wire_take.l0 kj8 (Go.bits .or .u64 x4_1 (ji14)) l1 (l1.length : Int) (wrap64 (x13_1 + 1)))) = some (r1, r2) := by first | (rw [hji14] at H; exact H) | (simp only [hji14] at H ⊢; exact H)
                        have hji14_ : (IntKind.u64.wrap ((IntKind.u64.wrap (Go.bits .and .u8 (rd l1 x13_1) 127)) * 2 ^ min (ji12).toNat 64)) = ji14 := hji14
                        have hji14z : (ji12) ≤ 64 → (IntKind.u64.wrap ((IntKind.u64.wrap (Go.bits .and .u8 (rd l1 x13_1) 127)) * 2 ^ (ji12).toNat)) = ji14 := shl_small hji14
                        by_cases c15 : (rd l1 x13_1) < 128
                        · rw [if_pos c15] at H
                          have c15b0 : decide ((rd l1 x13_1) < 128) = true := decide_eq_true c15
                          clear c15
                          by_cases c16 : (rd l1 x13_1) = 0
                          · rw [if_pos c16] at H
                            have c16b0 : ((rd l1 x13_1) == 0) = true := beq_iff_eq.mpr c16
                            have c16b1 : ((rd l1 x13_1) != 0) = false := bne_eq_false_iff_eq.mpr c16
                            clear c16
                            by_cases c17 : x13_1 > 0
                            · rw [if_pos c17] at H
                              have c17b0 : decide (0 < x13_1) = true := decide_eq_true c17
                              clear c17
                              simp only [Option.some.injEq, Prod.mk.injEq] at H
                              obtain ⟨rfl, rfl⟩ := H
                              go_wp2
                              go_ret2
                              exact ⟨by first | rfl | (simp [errW_none, errW_some] <;> rfl) | (simp only [← hji2, ← hji12, ← hji14]; first | rfl | (simp [errW_none, errW_some] <;> rfl)) | (simp [*, errW_none, errW_some] <;> rfl), by repeat (first | (with_reducible first | exact HB.out | apply below_alloc | apply pw_below_drewN | apply below_drew1) | exact HB.out)⟩
                            · rw [if_neg c17] at H
                              have c17b0 : decide (0 < x13_1) = false := decide_eq_false c17
                              clear c17
                              simp only [Option.some.injEq, Prod.mk.injEq] at H
                              obtain ⟨rfl, rfl⟩ := H
                              go_wp2
                              go_ret2
                              exact ⟨by first | rfl | (simp [errW_none, errW_some] <;> rfl) | (simp only [← hji2, ← hji12, ← hji14]; first | rfl | (simp [errW_none, errW_some] <;> rfl)) | (simp [*, errW_none, errW_some] <;> rfl), by repeat (first | (with_reducible first | exact HB.out | apply below_alloc | apply pw_below_drewN | apply below_drew1) | exact HB.out)⟩
                          · rw [if_neg c16] at H
                            have c16b0 : ((rd l1 x13_1) == 0) = false := beq_eq_false_iff_ne.mpr c16
                            have c16b1 : ((rd l1 x13_1) != 0) = true := bne_iff_ne.mpr c16
                            simp only [Option.some.injEq, Prod.mk.injEq] at H
                            obtain ⟨rfl, rfl⟩ := H
                            go_wp2
                            go_ret2
                            exact ⟨by first | rfl | (simp [errW_none, errW_some] <;> rfl) | (simp only [← hji2, ← hji12, ← hji14]; first | rfl | (simp [errW_none, errW_some] <;> rfl)) | (simp [*, errW_none, errW_some] <;> rfl), by repeat (first | (with_reducible first | exact HB.out | apply below_alloc | apply pw_below_drewN | apply below_drew1) | exact HB.out)⟩
                        · rw [if_neg c15] at H
                          have c15b0 : decide ((rd l1 x13_1) < 128) = false := decide_eq_false c15
                          clear c15
                          have H' := Aside0.mk H
                          clear H
                          go_wp2
                          go_roundg kj8
                          case measure => have := HK1.out; have := HJ8.out; omega
                          case rel => exact ⟨(Go.bits .or .u64 x4_1 (ji14)), (wrap64 (x13_1 + 1)), (by first | rfl | (simp; done) | (simp only [← hji14] <;> (first | rfl | simp)) | (simp [*]; done)), (by first | rfl | (simp; done) | (simp [*]; done)), H', ⟨by have := HK1.out; have := HJ8.out; omega⟩, ⟨by repeat (first | (with_reducible first | exact HB.out | apply below_alloc | apply pw_below_drewN | apply below_drew1) | exact HB.out)⟩⟩
                      · rw [if_neg c13] at H
                        exact absurd H (by simp)
              · rw [if_neg c8] at H
                exact absurd H (by simp)
            · rw [if_neg c7] at H
              exact absurd H (by simp)
          · rw [if_neg c6] at H
            have c6b0 : decide (x13_1 < (l1.length : Int)) = false := decide_eq_false c6
            clear c6
            simp only [Option.some.injEq, Prod.mk.injEq] at H
            obtain ⟨rfl, rfl⟩ := H
            go_wp2
            go_ret2
            exact ⟨by first | rfl | (simp [errW_none, errW_some] <;> rfl) | (simp only [← hji2]; first | rfl | (simp [errW_none, errW_some] <;> rfl)) | (simp [*, errW_none, errW_some] <;> rfl), by repeat (first | (with_reducible first | exact HB.out | apply below_alloc | apply pw_below_drewN | apply below_drew1) | exact HB.out)⟩
    · rw [if_neg c4] at H
      exact absurd H (by simp)
  · rw [if_neg c3] at H
    exact absurd H (by simp)

end Go.Proofs.Ytbphmpncajfaiaa.Py
-- PRINTED by print.py (a twelfth state) out of the translation. Not trusted: Lean checks it.
namespace Go.Proofs.Ytbphmpncajfaiaa.Py
open Go.RowKit Go.Proofs.YtbphmpncajfaiaaW.PrintWords Go.Proofs.YtbphmpncajfaiaaW.PrintLast Go.Proofs.YtbphmpncajfaiaaW.PrintMore
attribute [local go_sem] max2_int min2_int max_two min_two max_three min_three max_four min_four   -- for this text's walks alone
set_option linter.unusedVariables false
set_option linter.unusedSimpArgs false

/-! ### wire_Take: function 32 -/
def wire_Take.f (k : Nat) (l0 : List Int) : Option (Int × List Int × Option Int) := (wire_take.f k l0).bind fun bt315 => (if bt315.2 = 0 then (some (0, ([] : List Int), some 4)) else (if 0 ≤ bt315.2 then (if bt315.2 ≤ (l0.length : Int) then ((slices_Clone_byte_byte.f (l0.drop (bt315.2 : Int).toNat)).bind fun t318 => (some (bt315.1, t318, none))) else (none)) else (none)))
theorem wire_Take.mono : ∀ a0 k, LeO (wire_Take.f k a0) (wire_Take.f (k + 1) a0) := by
  intro a0 k
  unfold wire_Take.f
  repeat' first
      | (with_reducible exact wire_take.mono _ _)
      | (with_reducible exact LeO.refl _)
      | (with_reducible exact LeO.none _)
      | (with_reducible refine LeO.ite ?_ ?_)
      | (with_reducible refine LeO.bind ?_ (fun _ => ?_))
      | exact wire_take.mono _ _
      | exact LeO.none _
      | refine LeO.ite ?_ ?_
      | refine LeO.bind ?_ (fun _ => ?_)
set_option maxHeartbeats 8000000 in
set_option maxRecDepth 100000 in
theorem wire_Take.calls (k : Nat) (A0 : Option Addr) (c0 : Nat) (l0 : List Int) (r1 : Int) (r2 : List Int) (r3 : Option Int) (w : World) (hr0 : Kd.C (Kd.int .u8) w A0 l0.length l0) (hc0 : l0.length ≤ c0) (h : wire_Take.f k l0 = some (r1, r2, r3)) :
    Calls Try.prog 32 #[.slice A0 l0.length c0] w fun e w' => ∃ v1_ : Value, e = .returned (.tuple #[.int .i64 r1, v1_, errW r3]) ∧ Kd.R (Kd.int .u8) 5 w' w.heap.size (fun _ => True) v1_ r2 ∧ Below w.heap.size w w' := by
  have hu40 := Try.underlying40
  have hu49 := Try.underlying49
  have HR0 := Aside0.mk hr0
  have HC0 := Aside0.mk hc0
  clear hr0 hc0
  have HB := Aside0.mk (Below.refl w.heap.size w)
  have H : ((wire_take.f k l0).bind fun bt315 => (if bt315.2 = 0 then (some (0, ([] : List Int), some 4)) else (if 0 ≤ bt315.2 then (if bt315.2 ≤ (l0.length : Int) then ((slices_Clone_byte_byte.f (l0.drop (bt315.2 : Int).toNat)).bind fun t318 => (some (bt315.1, t318, none))) else (none)) else (none)))) = some (r1, r2, r3) := h
  clear h
  replace H := Option.bind_eq_some_iff.mp H
  obtain ⟨⟨t315, t316⟩, A20, H⟩ := H
  replace H : (if t316 = 0 then (some (0, ([] : List Int), some 4)) else (if 0 ≤ t316 then (if t316 ≤ (l0.length : Int) then ((slices_Clone_byte_byte.f (l0.drop (t316 : Int).toNat)).bind fun t318 => (some (t315, t318, none))) else (none)) else (none))) = some (r1, r2, r3) := H
  have A2 := Aside0.mk A20
  clear A20
  by_cases c3 : t316 = 0
  · rw [if_pos c3] at H
    have c3b0 : (t316 == 0) = true := beq_iff_eq.mpr c3
    have c3b1 : (t316 != 0) = false := bne_eq_false_iff_eq.mpr c3
    clear c3
    simp only [Option.some.injEq, Prod.mk.injEq] at H
    obtain ⟨rfl, rfl, rfl⟩ := H
    go_enter Try.func32, Try.ntmps32
    go_wp2_with (first | ((with_reducible refine gate_callee (f := 53) rfl ?_); refine goesL_ (some 9) rfl rfl Try.func53 (by kernel_rfl) rfl #[.slice A0 l0.length c0] rfl (by (try simp only [List.map_toArray, List.map_cons, List.map_nil]); first | done | rfl | (simp only [List.length_drop, List.length_take]; rfl)) ?_; (with_reducible refine (wire_take.calls k _ _ l0 t315 t316 _ ?side1 ?side2 A2.out).mono ?_); (case side1 => repeat (first | exact HR0.out | (with_reducible refine Kd.C_alloc ?_ _) | (with_reducible refine Kd.C_drewN ?_ _) | (with_reducible refine Kd.C_drew ?_))); (case side2 => exact HC0.out); rintro e w4 ⟨rfl, hb⟩; refine ⟨_, rfl, ?_⟩; have n0_ := Aside0.mk (below_step (by repeat (first | (with_reducible first | exact HB.out | apply below_alloc | apply pw_below_drewN | apply below_drew1) | exact HB.out)) hb); clear HB; have HB := n0_; clear n0_; (try clear hb); (try clear hb2); (try clear hk); (try clear hi)))
    go_ret3
    exact ⟨_, by first | rfl | (simp [errW_none, errW_some] <;> rfl) | (simp [*, errW_none, errW_some] <;> rfl), by first | exact Kd.R_nil _ _ _ _ _ | exact Kd.N_nil _ _ _ _ _ | exact Kd.V_nil _ _ _ _ _ | exact Kd.Q_nil _ _ _ _ _ | exact Kd.S_nil _ _ _ _ _, by repeat (first | (with_reducible first | exact HB.out | apply below_alloc | apply pw_below_drewN | apply below_drew1) | exact HB.out)⟩
  · rw [if_neg c3] at H
    have c3b0 : (t316 == 0) = false := beq_eq_false_iff_ne.mpr c3
    have c3b1 : (t316 != 0) = true := bne_iff_ne.mpr c3
    by_cases c5 : 0 ≤ t316
    · rw [if_pos c5] at H
      have c5b0 := eq_true c5
      have c5b1 : decide (0 ≤ t316) = true := decide_eq_true c5
      clear c5
      by_cases c6 : t316 ≤ (l0.length : Int)
      · rw [if_pos c6] at H
        have c6b0 := eq_true c6
        have c6b1 : decide (t316 ≤ (l0.length : Int)) = true := decide_eq_true c6
        clear c6
        replace H := Option.bind_eq_some_iff.mp H
        obtain ⟨t318, A70, H⟩ := H
        replace H : (some (t315, t318, none)) = some (r1, r2, r3) := H
        have A7 := Aside0.mk A70
        clear A70
        simp only [Option.some.injEq, Prod.mk.injEq] at H
        obtain ⟨rfl, rfl, rfl⟩ := H
        go_enter Try.func32, Try.ntmps32
        go_wp2_with (first | ((with_reducible refine gate_callee (f := 53) rfl ?_); refine goesL_ (some 9) rfl rfl Try.func53 (by kernel_rfl) rfl #[.slice A0 l0.length c0] rfl (by (try simp only [List.map_toArray, List.map_cons, List.map_nil]); first | done | rfl | (simp only [List.length_drop, List.length_take]; rfl)) ?_; (with_reducible refine (wire_take.calls k _ _ l0 t315 t316 _ ?side1 ?side2 A2.out).mono ?_); (case side1 => repeat (first | exact HR0.out | (with_reducible refine Kd.C_alloc ?_ _) | (with_reducible refine Kd.C_drewN ?_ _) | (with_reducible refine Kd.C_drew ?_))); (case side2 => exact HC0.out); rintro e w8 ⟨rfl, hb⟩; refine ⟨_, rfl, ?_⟩; have n0_ := Aside0.mk (below_step (by repeat (first | (with_reducible first | exact HB.out | apply below_alloc | apply pw_below_drewN | apply below_drew1) | exact HB.out)) hb); clear HB; have HB := n0_; clear n0_; (try clear hb); (try clear hb2); (try clear hk); (try clear hi); obtain ⟨i09, hi09, _, hsz9, _⟩ := info_parts info5; obtain ⟨A9, hcut9, hA9, hC9⟩ := print_drop_of (P := Try.prog) (Value.int .u8) 0 22 5 .i64 Try.underlying22 hi09 hsz9 A0 c0 l0 t316 (of_decide_eq_true (by first | (with_reducible assumption) | assumption)) (of_decide_eq_true (by first | (with_reducible assumption) | assumption)) HC0.out; have HR317 := Aside0.mk (Kd.C_of_reads (h1 := fun _ => rfl) (hA9 _ (Kd.reads_of_C HR0.out))); have HC317 := Aside0.mk hC9; clear hA9 hC9 hi09 hsz9) | ((with_reducible refine gate_callee (f := 50) rfl ?_); refine goesL_ (some 19) rfl rfl Try.func50 (by kernel_rfl) rfl #[.slice A9 (l0.drop (t316 : Int).toNat).length (c0 - t316.toNat)] rfl (by (try simp only [List.map_toArray, List.map_cons, List.map_nil]); first | done | (rw [show (l0.drop (t316 : Int).toNat).length = (l0.length - t316.toNat) from List.length_drop] <;> rfl) | rfl | (simp only [List.length_drop, List.length_take]; rfl)) ?_; (with_reducible refine (slices_Clone_byte_byte.calls _ _ (l0.drop (t316 : Int).toNat) t318 _ ?side1 ?side2 A7.out).mono ?_); (case side1 => repeat (first | exact (Kd.C_below HR317.out HB.out) | (with_reducible refine Kd.C_alloc ?_ _) | (with_reducible refine Kd.C_drewN ?_ _) | (with_reducible refine Kd.C_drew ?_))); (case side2 => exact HC317.out); rintro e w10 ⟨v319, rfl, ho0, hb⟩; refine ⟨_, rfl, ?_⟩; have n0_ := Aside0.mk (Kd.R_lower ho0 (below_size (by repeat (first | (with_reducible first | exact HB.out | apply below_alloc | apply pw_below_drewN | apply below_drew1) | exact HB.out)))); have n1_ := Aside0.mk (below_step (by repeat (first | (with_reducible first | exact HB.out | apply below_alloc | apply pw_below_drewN | apply below_drew1) | exact HB.out)) hb); clear HB; have HO320 := n0_; have HB := n1_; clear n0_ n1_; (try clear hb); (try clear hb2); (try clear hk); (try clear hi); (try clear ho0)))
        go_ret3
        exact ⟨_, by first | rfl | (simp [errW_none, errW_some] <;> rfl) | (simp [*, errW_none, errW_some] <;> rfl), by (with_reducible repeat (first | apply Kd.R_alloc | apply Kd.R_drewN | apply Kd.R_drew)); exact HO320.out, by repeat (first | (with_reducible first | exact HB.out | apply below_alloc | apply pw_below_drewN | apply below_drew1) | exact HB.out)⟩
      · rw [if_neg c6] at H
        exact absurd H (by simp)
    · rw [if_neg c5] at H
      exact absurd H (by simp)

end Go.Proofs.Ytbphmpncajfaiaa.Py
/- page.Decode (function 37). -/
namespace Go.Proofs.Ytbphmpncajfaiaa.K
open Go.RowKit Go.Proofs.Ytbphmpncajfaiaa.Py Go.Proofs.YtbphmpncajfaiaaW.PrintWords Go.Proofs.YtbphmpncajfaiaaW.PrintLast Go.Proofs.YtbphmpncajfaiaaW.PrintMore
set_option linter.unusedVariables false
set_option linter.unusedSimpArgs false
def none61 : List Int := List.replicate 61 0
theorem none61_len : none61.length = 61 := by simp [none61]
theorem results_page {fn : Func} {p q : Tmp} (h : fn.results = #[.cell p 65, .tmp q]) (tmps : Array Value) (w : World) (g : Nat) (l : List Int) (v : Value) (hp : tmps.getD p undef = .pointer (some ⟨g, 0, none⟩)) (hq : tmps.getD q undef = v) (hP : Page w g l) :
    (results fn tmps).run Try.prog w = .ok (.tuple #[.agg (pg l), v]) w := by
  have hp' : tmps[p]?.getD undef = .pointer (some ⟨g, 0, none⟩) := by simpa using hp
  have hq' : tmps[q]?.getD undef = v := by simpa using hq
  simp [results, h, hp', hq', asAddr, run_loadVar_row w g 65 65 (pg l) (0, 0) _ hP.1 Try.underlying65 rfl (by rw [pg_size, hP.2]; exact size65)]
set_option maxHeartbeats 8000000 in
set_option maxRecDepth 100000 in
/-- A sector of another length. -/
theorem decode_short (A : Option Addr) (c : Nat) (b : List Int) (w : World) (hC : Kd.C (Kd.int .u8) w A b.length b) (hc : b.length ≤ c) (h : b.length ≠ 512) :
    Calls Try.prog 37 #[.slice A b.length c] w fun e w' => e = .returned (.tuple #[.agg (pg none61), .iface 49 (.int .i64 4)]) ∧ Below w.heap.size w w' := by
  have HB := Aside0.mk (Below.refl w.heap.size w)
  have c1 : ((b.length : Int) != 512) = true := by simp; omega
  obtain ⟨z, hz⟩ : ∃ z : List Int, z = none61 := ⟨_, rfl⟩
  have NZ := Aside0.mk hz
  rw [← hz]
  clear hC hc hz
  go_enter Try.func37, Try.ntmps37
  go_wp2_with (first | ((with_reducible refine gate_dst (N := 2) rfl ?_); refine page_alloc rfl rfl ?_; intro g2 w2 hg hp hb; have HP := Aside0.mk hp; have G2 := Aside0.mk (show w.heap.size ≤ g2 by rw [hg]; exact Nat.le_refl _); replace HB := Aside0.mk (below_step HB.out hb); clear hp hb hg) | ((with_reducible refine gate_dst (N := 16) rfl ?_); refine page_blank rfl rfl z NZ.out ?_) | (refine page_store rfl rfl (.tmp 2) (.tmp 16) rfl g2 _ z rfl rfl HP.out (by rw [NZ.out]; exact none61_len) ?_; intro w3 hp hg; replace HP := Aside0.mk hp; replace HB := Aside0.mk (page_below HB.out hg G2.out); clear hp hg))
  refine bodyPost_ret (results_page (p := 2) (q := 3) rfl _ _ g2 z _ rfl rfl HP.out) rfl ?_
  exact ⟨rfl, HB.out⟩
theorem sep_cell {g c base : Nat} {w : World} {ok : Nat → Prop} (h : Kd.R (Kd.int .u8) 5 w base ok (.slice (some ⟨g, 0, none⟩) ([0] : List Int).length c) [0]) : w.cell? ⟨g, 0, none⟩ = some (.int .u8 0) := by
  have := (Kd.R_cell 0 h 0 (by omega) (by simp)).1
  simpa [rdOf] using this
set_option maxHeartbeats 8000000 in
set_option maxRecDepth 100000 in
/-- Bytes 0. -/
theorem decode_blank (ad : Addr) (c : Nat) (b : List Int) (w : World) (hC : Kd.C (Kd.int .u8) w (some ad) b.length b) (hc : b.length ≤ c) (h : b.length = 512) (hz0 : Lib.countByte (Lib.bytesOf b) 0 = 512) :
    Calls Try.prog 37 #[.slice (some ad) b.length c] w fun e w' => e = .returned (.tuple #[.agg (pg none61), .nilIface]) ∧ Below w.heap.size w w' := by
  have HB := Aside0.mk (Below.refl w.heap.size w)
  have HC := Aside0.mk hC
  have HZ := Aside0.mk hz0
  have c1 : ((b.length : Int) != 512) = false := by simp; omega
  have c2 : (((512 : Nat) : Int) == (b.length : Int)) = true := by simp; omega
  obtain ⟨z, hz⟩ : ∃ z : List Int, z = none61 := ⟨_, rfl⟩
  have NZ := Aside0.mk hz
  rw [← hz]
  have HL := Aside0.mk h
  clear hC hc hz hz0 h
  go_enter Try.func37, Try.ntmps37
  go_wp2_with (first | ((with_reducible refine gate_dst (N := 2) rfl ?_); refine page_alloc rfl rfl ?_; intro g2 w2 hg hp hb; have HP := Aside0.mk hp; have G2 := Aside0.mk (show w.heap.size ≤ g2 by rw [hg]; exact Nat.le_refl _); replace HB := Aside0.mk (below_step HB.out hb); clear hp hb hg) | ((with_reducible refine gate_dst (N := 19) rfl ?_); refine Kd.R_lit (w0 := w2) (Kd.int .u8) w2.heap.size 5 ?hg (N := 19) ?hd (xs := ([0] : List Int)) (inner := [.int .u8 0]) (ok := fun _ => True) (okp := fun _ => True) ?hr ?hp (fun _ hk => hk) trivial (Below.refl _ _) (Nat.le_refl _) (by simp) ?_; (case hd => rfl); (case hg => rfl); (case hr => first | (go_simp; done) | (go_simp; rfl)); (case hp => exact (Reps.one (show Kd.M (Kd.int .u8) _ _ _ 0 [.int .u8 0] from rfl) (Reps.none _ _))); intro v_s w_s ho_ hb_ hg_ hnew_; obtain ⟨A_s, c_s, e_s⟩ := Kd.R_slice ho_; subst e_s; obtain ⟨g_s, e_s, _, _, _⟩ := R_form ho_ (by simp); subst e_s; have HCS := Aside0.mk (sep_cell ho_); replace HP := Aside0.mk (HP.out.below hb_); replace HB := Aside0.mk (below_step HB.out hb_); clear ho_ hb_ hg_ hnew_) | ((with_reducible refine gate_callee (f := 54) rfl ?_); (with_reducible refine gate_dst (N := 20) rfl ?_); refine goesL_ (some 20) rfl rfl Try.func54 (by kernel_rfl) rfl #[.slice (some ad) b.length c, .slice (some ⟨g_s, 0, none⟩) 1 c_s] rfl (by (try simp only [List.map_toArray, List.map_cons, List.map_nil]); first | done | rfl) ?_; (refine (count_calls ad c c_s b ⟨g_s, 0, none⟩ _ (Kd.C_below HC.out HB.out) HCS.out).mono ?_); rintro e w_ct ⟨rfl, rfl⟩; refine ⟨_, rfl, ?_⟩; rw [HZ.out]) | ((with_reducible refine gate_dst (N := 24) rfl ?_); refine page_blank rfl rfl z NZ.out ?_) | (refine page_store rfl rfl (.tmp 2) (.tmp 24) rfl g2 _ z rfl rfl HP.out (by rw [NZ.out]; exact none61_len) ?_; intro w3 hp hg; replace HP := Aside0.mk hp; replace HB := Aside0.mk (page_below HB.out hg G2.out); clear hp hg))
  refine bodyPost_ret (results_page (p := 2) (q := 3) rfl _ _ g2 z _ rfl rfl HP.out) rfl ?_
  exact ⟨rfl, HB.out⟩
set_option maxHeartbeats 8000000 in
set_option maxRecDepth 100000 in
/-- No box. -/
theorem decode_nobox (ad : Addr) (c : Nat) (b : List Int) (w : World) (hC : Kd.C (Kd.int .u8) w (some ad) b.length b) (hc : b.length ≤ c) (h : b.length = 512) (ct : Nat) (hz0 : Lib.countByte (Lib.bytesOf b) 0 = ct) (hct : ct ≠ 512) (K1 : Nat) (inn : List Int) (er : Int) (h1 : wire_Unbox.f K1 b = some (inn, some er)) :
    Calls Try.prog 37 #[.slice (some ad) b.length c] w fun e w' => e = .returned (.tuple #[.agg (pg none61), .iface 49 (.int .i64 er)]) ∧ Below w.heap.size w w' := by
  have HB := Aside0.mk (Below.refl w.heap.size w)
  have HC := Aside0.mk hC
  have HZ := Aside0.mk hz0
  have LC := Aside0.mk hc
  have A1 := Aside0.mk h1
  have c1 : ((b.length : Int) != 512) = false := by simp; omega
  have c2 : ((ct : Int) == (b.length : Int)) = false := by simp; omega
  obtain ⟨z, hz⟩ : ∃ z : List Int, z = none61 := ⟨_, rfl⟩
  have NZ := Aside0.mk hz
  rw [← hz]
  have HL := Aside0.mk h
  clear hC hc hz hz0 h h1 hct
  go_enter Try.func37, Try.ntmps37
  go_wp2_with (first | ((with_reducible refine gate_dst (N := 2) rfl ?_); refine page_alloc rfl rfl ?_; intro g2 w2 hg hp hb; have HP := Aside0.mk hp; have G2 := Aside0.mk (show w.heap.size ≤ g2 by rw [hg]; exact Nat.le_refl _); replace HB := Aside0.mk (below_step HB.out hb); clear hp hb hg) | ((with_reducible refine gate_dst (N := 19) rfl ?_); refine Kd.R_lit (w0 := w2) (Kd.int .u8) w2.heap.size 5 ?hg (N := 19) ?hd (xs := ([0] : List Int)) (inner := [.int .u8 0]) (ok := fun _ => True) (okp := fun _ => True) ?hr ?hp (fun _ hk => hk) trivial (Below.refl _ _) (Nat.le_refl _) (by simp) ?_; (case hd => rfl); (case hg => rfl); (case hr => first | (go_simp; done) | (go_simp; rfl)); (case hp => exact (Reps.one (show Kd.M (Kd.int .u8) _ _ _ 0 [.int .u8 0] from rfl) (Reps.none _ _))); intro v_s w_s ho_ hb_ hg_ hnew_; obtain ⟨A_s, c_s, e_s⟩ := Kd.R_slice ho_; subst e_s; obtain ⟨g_s, e_s, _, _, _⟩ := R_form ho_ (by simp); subst e_s; have HCS := Aside0.mk (sep_cell ho_); replace HP := Aside0.mk (HP.out.below hb_); replace HB := Aside0.mk (below_step HB.out hb_); clear ho_ hb_ hg_ hnew_) | ((with_reducible refine gate_callee (f := 54) rfl ?_); (with_reducible refine gate_dst (N := 20) rfl ?_); refine goesL_ (some 20) rfl rfl Try.func54 (by kernel_rfl) rfl #[.slice (some ad) b.length c, .slice (some ⟨g_s, 0, none⟩) 1 c_s] rfl (by (try simp only [List.map_toArray, List.map_cons, List.map_nil]); first | done | rfl) ?_; (refine (count_calls ad c c_s b ⟨g_s, 0, none⟩ _ (Kd.C_below HC.out HB.out) HCS.out).mono ?_); rintro e w_ct ⟨rfl, rfl⟩; refine ⟨_, rfl, ?_⟩; rw [HZ.out]) | ((with_reducible refine gate_callee (f := 29) rfl ?_); (with_reducible refine gate_dst (N := 27) rfl ?_); refine goesL_ (some 27) rfl rfl Try.func29 (by kernel_rfl) rfl #[.slice (some ad) b.length c] rfl (by (try simp only [List.map_toArray, List.map_cons, List.map_nil]); first | done | rfl) ?_; (refine (wire_Unbox.calls K1 _ _ b inn (some er) _ ?side1 ?side2 A1.out).mono ?_); (case side1 => exact Kd.C_below HC.out HB.out); (case side2 => exact LC.out); rintro e w_ub ⟨v_ub, rfl, ho_, hb_⟩; refine ⟨_, rfl, ?_⟩; have HU := Aside0.mk (Kd.R_lower ho_ (below_size HB.out)); replace HP := Aside0.mk (HP.out.below hb_); replace HB := Aside0.mk (below_step HB.out hb_); clear ho_ hb_; obtain ⟨A_u, c_u, e_u⟩ := Kd.R_slice HU.out; subst e_u; (try simp only [errW_none, errW_some])) | ((with_reducible refine gate_dst (N := 32) rfl ?_); refine page_blank rfl rfl z NZ.out ?_) | (refine page_store rfl rfl (.tmp 2) (.tmp 32) rfl g2 _ z rfl rfl HP.out (by rw [NZ.out]; exact none61_len) ?_; intro w3 hp hg; replace HP := Aside0.mk hp; replace HB := Aside0.mk (page_below HB.out hg G2.out); clear hp hg))
  refine bodyPost_ret (results_page (p := 2) (q := 3) rfl _ _ g2 z _ rfl rfl HP.out) rfl ?_
  exact ⟨rfl, HB.out⟩
set_option maxHeartbeats 8000000 in
set_option maxRecDepth 100000 in
/-- A box, but no number ahead, or not 480 bytes behind it. -/
theorem decode_nonum (ad : Addr) (c : Nat) (b : List Int) (w : World) (hC : Kd.C (Kd.int .u8) w (some ad) b.length b) (hc : b.length ≤ c) (h : b.length = 512) (ct : Nat) (hz0 : Lib.countByte (Lib.bytesOf b) 0 = ct) (hct : ct ≠ 512) (K1 : Nat) (inn : List Int) (h1 : wire_Unbox.f K1 b = some (inn, none)) (K2 : Nat) (n : Int) (rs : List Int) (er : Option Int) (h2 : wire_Take.f K2 inn = some (n, rs, er)) (hbad : er = some 4 ∨ er = none ∧ rs.length ≠ 480) :
    Calls Try.prog 37 #[.slice (some ad) b.length c] w fun e w' => e = .returned (.tuple #[.agg (pg none61), .iface 49 (.int .i64 4)]) ∧ Below w.heap.size w w' := by
  have HB := Aside0.mk (Below.refl w.heap.size w)
  have HC := Aside0.mk hC
  have HZ := Aside0.mk hz0
  have LC := Aside0.mk hc
  have A1 := Aside0.mk h1
  have A2 := Aside0.mk h2
  have c1 : ((b.length : Int) != 512) = false := by simp; omega
  have c2 : ((ct : Int) == (b.length : Int)) = false := by simp; omega
  obtain ⟨z, hz⟩ : ∃ z : List Int, z = none61 := ⟨_, rfl⟩
  have NZ := Aside0.mk hz
  rw [← hz]
  have HL := Aside0.mk h
  clear hC hc hz hz0 h h1 hct h2
  rcases hbad with rfl | ⟨rfl, hbad⟩
  · go_enter Try.func37, Try.ntmps37
    go_wp2_with (first | ((with_reducible refine gate_dst (N := 2) rfl ?_); refine page_alloc rfl rfl ?_; intro g2 w2 hg hp hb; have HP := Aside0.mk hp; have G2 := Aside0.mk (show w.heap.size ≤ g2 by rw [hg]; exact Nat.le_refl _); replace HB := Aside0.mk (below_step HB.out hb); clear hp hb hg) | ((with_reducible refine gate_dst (N := 19) rfl ?_); refine Kd.R_lit (w0 := w2) (Kd.int .u8) w2.heap.size 5 ?hg (N := 19) ?hd (xs := ([0] : List Int)) (inner := [.int .u8 0]) (ok := fun _ => True) (okp := fun _ => True) ?hr ?hp (fun _ hk => hk) trivial (Below.refl _ _) (Nat.le_refl _) (by simp) ?_; (case hd => rfl); (case hg => rfl); (case hr => first | (go_simp; done) | (go_simp; rfl)); (case hp => exact (Reps.one (show Kd.M (Kd.int .u8) _ _ _ 0 [.int .u8 0] from rfl) (Reps.none _ _))); intro v_s w_s ho_ hb_ hg_ hnew_; obtain ⟨A_s, c_s, e_s⟩ := Kd.R_slice ho_; subst e_s; obtain ⟨g_s, e_s, _, _, _⟩ := R_form ho_ (by simp); subst e_s; have HCS := Aside0.mk (sep_cell ho_); replace HP := Aside0.mk (HP.out.below hb_); replace HB := Aside0.mk (below_step HB.out hb_); clear ho_ hb_ hg_ hnew_) | ((with_reducible refine gate_callee (f := 54) rfl ?_); (with_reducible refine gate_dst (N := 20) rfl ?_); refine goesL_ (some 20) rfl rfl Try.func54 (by kernel_rfl) rfl #[.slice (some ad) b.length c, .slice (some ⟨g_s, 0, none⟩) 1 c_s] rfl (by (try simp only [List.map_toArray, List.map_cons, List.map_nil]); first | done | rfl) ?_; (refine (count_calls ad c c_s b ⟨g_s, 0, none⟩ _ (Kd.C_below HC.out HB.out) HCS.out).mono ?_); rintro e w_ct ⟨rfl, rfl⟩; refine ⟨_, rfl, ?_⟩; rw [HZ.out]) | ((with_reducible refine gate_callee (f := 29) rfl ?_); (with_reducible refine gate_dst (N := 27) rfl ?_); refine goesL_ (some 27) rfl rfl Try.func29 (by kernel_rfl) rfl #[.slice (some ad) b.length c] rfl (by (try simp only [List.map_toArray, List.map_cons, List.map_nil]); first | done | rfl) ?_; (refine (wire_Unbox.calls K1 _ _ b inn none _ ?side1 ?side2 A1.out).mono ?_); (case side1 => exact Kd.C_below HC.out HB.out); (case side2 => exact LC.out); rintro e w_ub ⟨v_ub, rfl, ho_, hb_⟩; refine ⟨_, rfl, ?_⟩; have HU := Aside0.mk (Kd.R_lower ho_ (below_size HB.out)); replace HP := Aside0.mk (HP.out.below hb_); replace HB := Aside0.mk (below_step HB.out hb_); clear ho_ hb_; obtain ⟨A_u, c_u, e_u⟩ := Kd.R_slice HU.out; subst e_u; (try simp only [errW_none, errW_some])) | ((with_reducible refine gate_callee (f := 32) rfl ?_); (with_reducible refine gate_dst (N := 36) rfl ?_); refine goesL_ (some 36) rfl rfl Try.func32 (by kernel_rfl) rfl #[.slice A_u inn.length c_u] rfl (by (try simp only [List.map_toArray, List.map_cons, List.map_nil]); first | done | rfl) ?_; (refine (wire_Take.calls K2 _ _ inn n rs (some 4) _ ?side1 ?side2 A2.out).mono ?_); (case side1 => exact (Kd.R_reads' HU.out).2.2); (case side2 => exact (Kd.R_reads' HU.out).2.1); rintro e w_tk ⟨v_tk, rfl, ho_, hb_⟩; refine ⟨_, rfl, ?_⟩; have HT := Aside0.mk (Kd.R_lower ho_ (below_size HB.out)); replace HP := Aside0.mk (HP.out.below hb_); replace HB := Aside0.mk (below_step HB.out hb_); clear ho_ hb_; obtain ⟨A_t, c_t, e_t⟩ := Kd.R_slice HT.out; subst e_t; (try simp only [errW_none, errW_some])) | ((with_reducible refine gate_dst (N := 47) rfl ?_); refine page_blank rfl rfl z NZ.out ?_) | (refine page_store rfl rfl (.tmp 2) (.tmp 47) rfl g2 _ z rfl rfl HP.out (by rw [NZ.out]; exact none61_len) ?_; intro w3 hp hg; replace HP := Aside0.mk hp; replace HB := Aside0.mk (page_below HB.out hg G2.out); clear hp hg))
    refine bodyPost_ret (results_page (p := 2) (q := 3) rfl _ _ g2 z _ rfl rfl HP.out) rfl ?_
    exact ⟨rfl, HB.out⟩
  · have c3 : ((rs.length : Int) != 480) = true := by simp; omega
    clear hbad
    go_enter Try.func37, Try.ntmps37
    go_wp2_with (first | ((with_reducible refine gate_dst (N := 2) rfl ?_); refine page_alloc rfl rfl ?_; intro g2 w2 hg hp hb; have HP := Aside0.mk hp; have G2 := Aside0.mk (show w.heap.size ≤ g2 by rw [hg]; exact Nat.le_refl _); replace HB := Aside0.mk (below_step HB.out hb); clear hp hb hg) | ((with_reducible refine gate_dst (N := 19) rfl ?_); refine Kd.R_lit (w0 := w2) (Kd.int .u8) w2.heap.size 5 ?hg (N := 19) ?hd (xs := ([0] : List Int)) (inner := [.int .u8 0]) (ok := fun _ => True) (okp := fun _ => True) ?hr ?hp (fun _ hk => hk) trivial (Below.refl _ _) (Nat.le_refl _) (by simp) ?_; (case hd => rfl); (case hg => rfl); (case hr => first | (go_simp; done) | (go_simp; rfl)); (case hp => exact (Reps.one (show Kd.M (Kd.int .u8) _ _ _ 0 [.int .u8 0] from rfl) (Reps.none _ _))); intro v_s w_s ho_ hb_ hg_ hnew_; obtain ⟨A_s, c_s, e_s⟩ := Kd.R_slice ho_; subst e_s; obtain ⟨g_s, e_s, _, _, _⟩ := R_form ho_ (by simp); subst e_s; have HCS := Aside0.mk (sep_cell ho_); replace HP := Aside0.mk (HP.out.below hb_); replace HB := Aside0.mk (below_step HB.out hb_); clear ho_ hb_ hg_ hnew_) | ((with_reducible refine gate_callee (f := 54) rfl ?_); (with_reducible refine gate_dst (N := 20) rfl ?_); refine goesL_ (some 20) rfl rfl Try.func54 (by kernel_rfl) rfl #[.slice (some ad) b.length c, .slice (some ⟨g_s, 0, none⟩) 1 c_s] rfl (by (try simp only [List.map_toArray, List.map_cons, List.map_nil]); first | done | rfl) ?_; (refine (count_calls ad c c_s b ⟨g_s, 0, none⟩ _ (Kd.C_below HC.out HB.out) HCS.out).mono ?_); rintro e w_ct ⟨rfl, rfl⟩; refine ⟨_, rfl, ?_⟩; rw [HZ.out]) | ((with_reducible refine gate_callee (f := 29) rfl ?_); (with_reducible refine gate_dst (N := 27) rfl ?_); refine goesL_ (some 27) rfl rfl Try.func29 (by kernel_rfl) rfl #[.slice (some ad) b.length c] rfl (by (try simp only [List.map_toArray, List.map_cons, List.map_nil]); first | done | rfl) ?_; (refine (wire_Unbox.calls K1 _ _ b inn none _ ?side1 ?side2 A1.out).mono ?_); (case side1 => exact Kd.C_below HC.out HB.out); (case side2 => exact LC.out); rintro e w_ub ⟨v_ub, rfl, ho_, hb_⟩; refine ⟨_, rfl, ?_⟩; have HU := Aside0.mk (Kd.R_lower ho_ (below_size HB.out)); replace HP := Aside0.mk (HP.out.below hb_); replace HB := Aside0.mk (below_step HB.out hb_); clear ho_ hb_; obtain ⟨A_u, c_u, e_u⟩ := Kd.R_slice HU.out; subst e_u; (try simp only [errW_none, errW_some])) | ((with_reducible refine gate_callee (f := 32) rfl ?_); (with_reducible refine gate_dst (N := 36) rfl ?_); refine goesL_ (some 36) rfl rfl Try.func32 (by kernel_rfl) rfl #[.slice A_u inn.length c_u] rfl (by (try simp only [List.map_toArray, List.map_cons, List.map_nil]); first | done | rfl) ?_; (refine (wire_Take.calls K2 _ _ inn n rs none _ ?side1 ?side2 A2.out).mono ?_); (case side1 => exact (Kd.R_reads' HU.out).2.2); (case side2 => exact (Kd.R_reads' HU.out).2.1); rintro e w_tk ⟨v_tk, rfl, ho_, hb_⟩; refine ⟨_, rfl, ?_⟩; have HT := Aside0.mk (Kd.R_lower ho_ (below_size HB.out)); replace HP := Aside0.mk (HP.out.below hb_); replace HB := Aside0.mk (below_step HB.out hb_); clear ho_ hb_; obtain ⟨A_t, c_t, e_t⟩ := Kd.R_slice HT.out; subst e_t; (try simp only [errW_none, errW_some])) | ((with_reducible refine gate_dst (N := 47) rfl ?_); refine page_blank rfl rfl z NZ.out ?_) | (refine page_store rfl rfl (.tmp 2) (.tmp 47) rfl g2 _ z rfl rfl HP.out (by rw [NZ.out]; exact none61_len) ?_; intro w3 hp hg; replace HP := Aside0.mk hp; replace HB := Aside0.mk (page_below HB.out hg G2.out); clear hp hg))
    refine bodyPost_ret (results_page (p := 2) (q := 3) rfl _ _ g2 z _ rfl rfl HP.out) rfl ?_
    exact ⟨rfl, HB.out⟩
end Go.Proofs.Ytbphmpncajfaiaa.K
-- PRINTED by print.py (a twelfth state) out of the translation. Not trusted: Lean checks it.
namespace Go.Proofs.Ytbphmpncajfaiaa.Py
open Go.RowKit Go.Proofs.YtbphmpncajfaiaaW.PrintWords Go.Proofs.YtbphmpncajfaiaaW.PrintLast Go.Proofs.YtbphmpncajfaiaaW.PrintMore
attribute [local go_sem] max2_int min2_int max_two min_two max_three min_three max_four min_four   -- for this text's walks alone
set_option linter.unusedVariables false
set_option linter.unusedSimpArgs false

/-! ### palimpsestref02_Check: function 46 -/
mutual
def palimpsestref02_Check.l0 : Nat → List Int → Int → Int → Option (Int)
  | 0, _, _, _ => none
  | k + 1, x0, x3, x4 => if x4 < (x0.length : Int) then (if 0 ≤ x4 then (palimpsestref02_Check.l1 k x0 (Go.bits .xor .u32 x3 ((rd x0 x4) % 4294967296)) x4 0) else (none)) else (some (Go.bits .xor .u32 x3 4294967295))
def palimpsestref02_Check.l1 : Nat → List Int → Int → Int → Int → Option (Int)
  | 0, _, _, _, _ => none
  | k + 1, x0, x3, x4, x5 => if x5 < 8 then (if (Int.tmod x3 2) = 1 then (palimpsestref02_Check.l1 k x0 (Go.bits .xor .u32 ((Int.tdiv x3 2) % 4294967296) 3988292384) x4 (wrap64 (x5 + 1))) else (palimpsestref02_Check.l1 k x0 ((Int.tdiv x3 2) % 4294967296) x4 (wrap64 (x5 + 1)))) else (palimpsestref02_Check.l0 k x0 x3 (wrap64 (x4 + 1)))
end
def palimpsestref02_Check.f (k : Nat) (l0 : List Int) : Option (Int) := palimpsestref02_Check.l0 k l0 4294967295 0
theorem palimpsestref02_Check.mono_l : ∀ k, (∀ y0 y1 y2, LeO (palimpsestref02_Check.l0 k y0 y1 y2) (palimpsestref02_Check.l0 (k + 1) y0 y1 y2)) ∧ (∀ y0 y1 y2 y3, LeO (palimpsestref02_Check.l1 k y0 y1 y2 y3) (palimpsestref02_Check.l1 (k + 1) y0 y1 y2 y3))
  | 0 => ⟨fun _ _ _ r h => by simp [palimpsestref02_Check.l0] at h, fun _ _ _ _ r h => by simp [palimpsestref02_Check.l1] at h⟩
  | k + 1 => by
    obtain ⟨ih0, ih1⟩ := palimpsestref02_Check.mono_l k
    refine ⟨?_, ?_⟩
    · intro y0 y1 y2
      unfold palimpsestref02_Check.l0
      repeat' first
      | (with_reducible exact ih0 _ _ _)
      | (with_reducible exact ih1 _ _ _ _)
      | (with_reducible exact LeO.refl _)
      | (with_reducible exact LeO.none _)
      | (with_reducible refine LeO.ite ?_ ?_)
      | (with_reducible refine LeO.bind ?_ (fun _ => ?_))
      | exact ih0 _ _ _
      | exact ih1 _ _ _ _
      | exact LeO.none _
      | refine LeO.ite ?_ ?_
      | refine LeO.bind ?_ (fun _ => ?_)
    · intro y0 y1 y2 y3
      unfold palimpsestref02_Check.l1
      repeat' first
      | (with_reducible exact ih0 _ _ _)
      | (with_reducible exact ih1 _ _ _ _)
      | (with_reducible exact LeO.refl _)
      | (with_reducible exact LeO.none _)
      | (with_reducible refine LeO.ite ?_ ?_)
      | (with_reducible refine LeO.bind ?_ (fun _ => ?_))
      | exact ih0 _ _ _
      | exact ih1 _ _ _ _
      | exact LeO.none _
      | refine LeO.ite ?_ ?_
      | refine LeO.bind ?_ (fun _ => ?_)
theorem palimpsestref02_Check.mono : ∀ a0 k, LeO (palimpsestref02_Check.f k a0) (palimpsestref02_Check.f (k + 1) a0) := by
  intro a0 k
  obtain ⟨ih0, ih1⟩ := palimpsestref02_Check.mono_l k
  unfold palimpsestref02_Check.f
  repeat' first
      | (with_reducible exact ih0 _ _ _)
      | (with_reducible exact ih1 _ _ _ _)
      | (with_reducible exact LeO.refl _)
      | (with_reducible exact LeO.none _)
      | (with_reducible refine LeO.ite ?_ ?_)
      | (with_reducible refine LeO.bind ?_ (fun _ => ?_))
      | exact ih0 _ _ _
      | exact ih1 _ _ _ _
      | exact LeO.none _
      | refine LeO.ite ?_ ?_
      | refine LeO.bind ?_ (fun _ => ?_)
set_option maxHeartbeats 8000000 in
set_option maxRecDepth 100000 in
theorem palimpsestref02_Check.calls (k : Nat) (A0 : Option Addr) (c0 : Nat) (l0 : List Int) (r : Int) (w : World) (hr0 : Kd.C (Kd.int .u8) w A0 l0.length l0) (hc0 : l0.length ≤ c0) (h : palimpsestref02_Check.f k l0 = some r) :
    Calls Try.prog 46 #[.slice A0 l0.length c0] w fun e w' => e = .returned (.int .u32 r) ∧ Drawn0 w w' := by
  have HR0 := Aside0.mk hr0
  have HC0 := Aside0.mk hc0
  clear hr0 hc0
  have H : (palimpsestref02_Check.l0 k l0 4294967295 0) = some r := h
  clear h
  have H' := Aside0.mk H
  clear H
  go_enter Try.func46, Try.ntmps46
  go_wp2
  go_loopg [3, 4] k (fun kq v3 v4 w' => ∃ (x3_1 : Int) (x4_1 : Int), v3 = .int .u32 x3_1 ∧ v4 = .int .i64 x4_1 ∧ Aside0 (palimpsestref02_Check.l0 kq l0 x3_1 x4_1 = some r) ∧ Aside0 (kq ≤ k) ∧ Drawn0 w w')
  case atStart => exact ⟨(4294967295), (0), (by first | rfl | (simp; done) | (simp [*]; done)), (by first | rfl | (simp; done) | (simp [*]; done)), H', ⟨Nat.le_refl _⟩, by repeat (first | exact Drawn0.refl _ | apply Drawn0.step)⟩
  case round =>
    clear H'
    obtain ⟨x3_1, x4_1, rfl, rfl, HA, HK1, ⟨m1, rfl⟩⟩ := hrel
    cases gk with
    | zero => exact absurd HA.out (by simp [palimpsestref02_Check.l0])
    | succ k1 =>
      have H := HA.out
      clear HA
      simp only [palimpsestref02_Check.l0] at H
      by_cases c2 : x4_1 < (l0.length : Int)
      · rw [if_pos c2] at H
        have c2b0 : decide (x4_1 < (l0.length : Int)) = true := decide_eq_true c2
        clear c2
        by_cases c3 : 0 ≤ x4_1
        · rw [if_pos c3] at H
          have c3b0 : decide (0 ≤ x4_1) = true := decide_eq_true c3
          clear c3
          have H' := Aside0.mk H
          clear H
          have p180 : 0 ≤ (x4_1 : Int) := of_decide_eq_true (by first | (with_reducible assumption) | assumption)
          have q180 : x4_1 < (l0.length : Int) := of_decide_eq_true (by first | (with_reducible assumption) | assumption)
          obtain ⟨ad180, e180, hx180_0⟩ := Kd.at_int HR0.out x4_1 p180 q180
          cases e180
          replace p180 := eq_true p180
          replace q180 := eq_true q180
          go_wp2
          go_loopg [3, 5] k1 (fun kq v3 v5 w' => ∃ (x3_2 : Int) (x5_2 : Int), v3 = .int .u32 x3_2 ∧ v5 = .int .i64 x5_2 ∧ Aside0 (palimpsestref02_Check.l1 kq l0 x3_2 x4_1 x5_2 = some r) ∧ Aside0 (kq ≤ k1) ∧ Drawn0 w w')
          case atStart => exact ⟨(Go.bits .xor .u32 x3_1 ((rd l0 x4_1) % 4294967296)), (0), (by first | rfl | (simp; done) | (simp [*]; done)), (by first | rfl | (simp; done) | (simp [*]; done)), H', ⟨Nat.le_refl _⟩, by repeat (first | exact Drawn0.refl _ | apply Drawn0.step)⟩
          case round =>
            clear H'
            try clear p1
            try clear q1
            try clear hx1
            try clear c2
            try clear c2b0
            try clear p2
            try clear c3
            try clear c3b0
            try clear hx180_0
            try clear p180
            try clear q180
            obtain ⟨x3_2, x5_2, rfl, rfl, HA, HK2, ⟨m2, rfl⟩⟩ := hrel
            cases gk with
            | zero => exact absurd HA.out (by simp [palimpsestref02_Check.l1])
            | succ k2 =>
              have H := HA.out
              clear HA
              simp only [palimpsestref02_Check.l1] at H
              by_cases c4 : x5_2 < 8
              · rw [if_pos c4] at H
                have c4b0 : decide (x5_2 < 8) = true := decide_eq_true c4
                clear c4
                by_cases c5 : (Int.tmod x3_2 2) = 1
                · rw [if_pos c5] at H
                  have c5b0 : ((Int.tmod x3_2 2) == 1) = true := beq_iff_eq.mpr c5
                  have c5b1 : ((Int.tmod x3_2 2) != 1) = false := bne_eq_false_iff_eq.mpr c5
                  clear c5
                  have H' := Aside0.mk H
                  clear H
                  go_wp2
                  go_roundg k2
                  case measure => have := HK1.out; have := HK2.out; omega
                  case rel => exact ⟨(Go.bits .xor .u32 ((Int.tdiv x3_2 2) % 4294967296) 3988292384), (wrap64 (x5_2 + 1)), (by first | rfl | (simp; done) | (simp [*]; done)), (by first | rfl | (simp; done) | (simp [*]; done)), H', ⟨by have := HK1.out; have := HK2.out; omega⟩, by repeat (first | exact Drawn0.refl _ | apply Drawn0.step)⟩
                · rw [if_neg c5] at H
                  have c5b0 : ((Int.tmod x3_2 2) == 1) = false := beq_eq_false_iff_ne.mpr c5
                  have c5b1 : ((Int.tmod x3_2 2) != 1) = true := bne_iff_ne.mpr c5
                  have H' := Aside0.mk H
                  clear H
                  go_wp2
                  go_roundg k2
                  case measure => have := HK1.out; have := HK2.out; omega
                  case rel => exact ⟨((Int.tdiv x3_2 2) % 4294967296), (wrap64 (x5_2 + 1)), (by first | rfl | (simp; done) | (simp [*]; done)), (by first | rfl | (simp; done) | (simp [*]; done)), H', ⟨by have := HK1.out; have := HK2.out; omega⟩, by repeat (first | exact Drawn0.refl _ | apply Drawn0.step)⟩
              · rw [if_neg c4] at H
                have c4b0 : decide (x5_2 < 8) = false := decide_eq_false c4
                clear c4
                have H' := Aside0.mk H
                clear H
                go_wp2
                go_roundg k2
                case measure => have := HK1.out; have := HK2.out; omega
                case rel => exact ⟨(x3_2), (wrap64 (x4_1 + 1)), (by first | rfl | (simp; done) | (simp [*]; done)), (by first | rfl | (simp; done) | (simp [*]; done)), H', ⟨by have := HK1.out; have := HK2.out; omega⟩, by repeat (first | exact Drawn0.refl _ | apply Drawn0.step)⟩
        · rw [if_neg c3] at H
          exact absurd H (by simp)
      · rw [if_neg c2] at H
        have c2b0 : decide (x4_1 < (l0.length : Int)) = false := decide_eq_false c2
        clear c2
        obtain rfl := Option.some.inj H
        go_wp2
        go_ret
        exact ⟨by first | rfl | (simp; done) | (simp [*]; done), by repeat (first | exact Drawn0.refl _ | apply Drawn0.step)⟩

end Go.Proofs.Ytbphmpncajfaiaa.Py
/- Plain: CRC-32 as a fold over whole numbers, and that both texts come to it. -/
namespace Go.Proofs.Ytbphmpncajfaiaa.M
open Go.RowKit Go.Proofs.Ytbphmpncajfaiaa.Py Go.Proofs.YtbphmpncajfaiaaW.PrintWords Go.Proofs.YtbphmpncajfaiaaW.PrintLast Go.Proofs.YtbphmpncajfaiaaW.PrintMore
set_option linter.unusedVariables false
set_option linter.unusedSimpArgs false
/-- All are bytes. -/
def Bytes (l : List Int) : Prop := ∀ x ∈ l, 0 ≤ x ∧ x < 256
theorem Bytes.nil : Bytes [] := fun _ h => by cases h
theorem Bytes.append {l m : List Int} (h : Bytes l) (k : Bytes m) : Bytes (l ++ m) := fun x hx => by
  rcases List.mem_append.1 hx with h1 | h1
  · exact h x h1
  · exact k x h1
theorem Bytes.left {l m : List Int} (h : Bytes (l ++ m)) : Bytes l := fun x hx => h x (List.mem_append_left _ hx)
theorem Bytes.right {l m : List Int} (h : Bytes (l ++ m)) : Bytes m := fun x hx => h x (List.mem_append_right _ hx)
theorem Bytes.drop {l : List Int} (h : Bytes l) (n : Nat) : Bytes (l.drop n) := fun x hx => h x (List.mem_of_mem_drop hx)
theorem Bytes.take {l : List Int} (h : Bytes l) (n : Nat) : Bytes (l.take n) := fun x hx => h x (List.mem_of_mem_take hx)
theorem rd_bytes {l : List Int} (h : Bytes l) (i : Int) (h1 : i.toNat < l.length) : 0 ≤ rd l i ∧ rd l i < 256 := by
  unfold rd
  rw [List.getD_eq_getElem?_getD, List.getElem?_eq_getElem h1]
  exact h _ (List.getElem_mem h1)
theorem Bytes.replicate (n : Nat) : Bytes (List.replicate n 0) := fun x hx => by
  rw [(List.mem_replicate.1 hx).2]
  omega
theorem rd_cons {x : Int} {l m : List Int} : rd (m ++ x :: l) (m.length : Int) = x := by
  unfold rd
  simp

theorem bits_xor_u32_nat (a b : Nat) (ha : a < 4294967296) (hb : b < 4294967296) : bits .xor .u32 (a : Int) (b : Int) = ((a ^^^ b : Nat) : Int) := by
  have ha' : a % 2 ^ IntKind.u32.bits = a := Nat.mod_eq_of_lt (by simpa [IntKind.bits] using ha)
  have hb' : b % 2 ^ IntKind.u32.bits = b := Nat.mod_eq_of_lt (by simpa [IntKind.bits] using hb)
  have hx : a ^^^ b < 4294967296 := Nat.xor_lt_two_pow (n := 32) ha hb
  simp only [bits, BitVec.ofInt_natCast, BitVec.toNat_xor, BitVec.toNat_ofNat, ha', hb']
  rw [IntKind.wrap_u32]
  omega
theorem bits_and1_u32 (a : Nat) (ha : a < 4294967296) : bits .and .u32 (a : Int) 1 = ((a % 2 : Nat) : Int) := by
  have := bits_mask .u32 32 (by decide) (fun n h0 h1 => by rw [IntKind.wrap_u32]; omega) 1 (by decide) (a : Int) (by omega) (by omega)
  simpa using this

/-- One step of the register. -/
def cst (r : Nat) : Nat := if r % 2 = 1 then (r / 2) ^^^ 3988292384 else r / 2
def csts : Nat → Nat → Nat
  | 0, r => r
  | n + 1, r => csts n (cst r)
def cby (r b : Nat) : Nat := csts 8 (r ^^^ b)
def crcs (r : Nat) : List Int → Nat
  | [] => r
  | b :: l => crcs (cby r b.toNat) l
/-- CRC-32. -/
def crc (l : List Int) : Int := ((4294967295 ^^^ crcs 4294967295 l : Nat) : Int)
theorem cst_lt {r : Nat} (h : r < 4294967296) : cst r < 4294967296 := by
  unfold cst
  split
  · exact Nat.xor_lt_two_pow (n := 32) (by omega) (by decide)
  · omega
theorem csts_lt : ∀ (n : Nat) {r : Nat}, r < 4294967296 → csts n r < 4294967296
  | 0, _, h => h
  | n + 1, _, h => csts_lt n (cst_lt h)
theorem cby_lt {r b : Nat} (h : r < 4294967296) (hb : b < 256) : cby r b < 4294967296 := csts_lt 8 (Nat.xor_lt_two_pow (n := 32) h (by omega))
theorem crcs_lt : ∀ (l : List Int) {r : Nat}, Bytes l → r < 4294967296 → crcs r l < 4294967296
  | [], _, _, h => h
  | b :: l, r, hb, h => crcs_lt l (fun x hx => hb x (List.mem_cons_of_mem _ hx)) (cby_lt h (by have := hb b List.mem_cons_self; omega))
theorem crcs_append (l m : List Int) (r : Nat) : crcs r (l ++ m) = crcs (crcs r l) m := by
  induction l generalizing r with
  | nil => rfl
  | cons b l ih => exact ih _
theorem crc_range {l : List Int} (h : Bytes l) : 0 ≤ crc l ∧ crc l < 4294967296 := by
  have := Nat.xor_lt_two_pow (n := 32) (show 4294967295 < 2 ^ 32 by decide) (crcs_lt l h (by decide : 4294967295 < 4294967296))
  unfold crc
  omega

theorem w1 {x : Int} (h0 : 0 ≤ x) (h1 : x < 140737488355328) : wrap64 (x + 1) = x + 1 := by unfold wrap64; omega

/-! #### the document's text -/
theorem ref_l1 (x : List Int) (i : Int) : ∀ (n : Nat) (r : Nat) (j : Int) (k : Nat), r < 4294967296 → j = 8 - (n : Int) → n ≤ 8 → palimpsestref02_Check.l1 (n + 1 + k) x r i j = palimpsestref02_Check.l0 k x (csts n r : Nat) (wrap64 (i + 1))
  | 0, r, j, k, hr, hj, hn => by
    rw [show 0 + 1 + k = k + 1 by omega]
    simp only [palimpsestref02_Check.l1]
    rw [if_neg (by omega)]
    rfl
  | n + 1, r, j, k, hr, hj, hn => by
    rw [show n + 1 + 1 + k = (n + 1 + k) + 1 by omega]
    simp only [palimpsestref02_Check.l1]
    rw [if_pos (by omega)]
    have hm : Int.tmod (r : Int) 2 = ((r % 2 : Nat) : Int) := by rw [Int.tmod_eq_emod_of_nonneg (by omega)]; omega
    have hd : Int.tdiv (r : Int) 2 % 4294967296 = ((r / 2 : Nat) : Int) := by rw [Int.tdiv_eq_ediv_of_nonneg (by omega)]; omega
    rw [hm, hd]
    have e : wrap64 (j + 1) = j + 1 := by unfold wrap64; omega
    rw [e]
    by_cases h : r % 2 = 1
    · rw [if_pos (by omega)]
      rw [show (3988292384 : Int) = ((3988292384 : Nat) : Int) from rfl, bits_xor_u32_nat _ _ (by omega) (by decide)]
      have hc : cst r = (r / 2) ^^^ 3988292384 := by unfold cst; rw [if_pos h]
      rw [← hc, ref_l1 x i n (cst r) (j + 1) k (cst_lt hr) (by omega) (by omega)]
      rfl
    · rw [if_neg (by omega)]
      have hc : cst r = r / 2 := by unfold cst; rw [if_neg h]
      rw [← hc, ref_l1 x i n (cst r) (j + 1) k (cst_lt hr) (by omega) (by omega)]
      rfl
theorem ref_l0 (hs : Nat) : ∀ (l m : List Int) (r : Nat) (k : Nat), r < 4294967296 → Bytes l → (m ++ l).length ≤ 140737488355328 → 10 * l.length + 1 ≤ k → palimpsestref02_Check.l0 k (m ++ l) r (m.length : Int) = some ((4294967295 ^^^ crcs r l : Nat) : Int)
  | [], m, r, k, hr, hb, hl, hk => by
    obtain ⟨k, rfl⟩ : ∃ j, k = j + 1 := ⟨k - 1, by omega⟩
    simp only [palimpsestref02_Check.l0]
    rw [if_neg (by simp)]
    rw [show (4294967295 : Int) = ((4294967295 : Nat) : Int) from rfl, bits_xor_u32_nat _ _ hr (by decide), Nat.xor_comm]
    rfl
  | b :: l, m, r, k, hr, hb, hl, hk => by
    have hb1 := hb b List.mem_cons_self
    rw [List.length_cons] at hk
    rw [List.length_append, List.length_cons] at hl
    obtain ⟨k, rfl⟩ : ∃ j, k = (8 + 1 + j) + 1 := ⟨k - 10, by omega⟩
    obtain ⟨n, rfl⟩ := Int.eq_ofNat_of_zero_le hb1.1
    simp only [palimpsestref02_Check.l0]
    rw [if_pos (by simp; omega), if_pos (by omega), rd_cons]
    have hx : ((n : Int) % 4294967296) = ((n : Nat) : Int) := by omega
    rw [hx, bits_xor_u32_nat _ _ hr (by omega), ref_l1 _ _ 8 _ 0 k (Nat.xor_lt_two_pow (n := 32) hr (by omega)) (by omega) (by omega)]
    rw [w1 (by omega) (by omega)]
    have := ref_l0 hs l (m ++ [(n : Int)]) (cby r n) k (cby_lt hr (by omega)) (fun x hx => hb x (List.mem_cons_of_mem _ hx)) (by simp; omega) (by omega)
    simp only [List.append_assoc, List.cons_append, List.nil_append, List.length_append, List.length_cons, List.length_nil] at this
    have e : ((m.length + (0 + 1) : Nat) : Int) = (m.length : Int) + 1 := by omega
    rw [e] at this
    exact this
theorem ref_check {l : List Int} (hb : Bytes l) (hl : l.length ≤ 140737488355328) : ∀ k, 10 * l.length + 1 ≤ k → palimpsestref02_Check.f k l = some (crc l) := by
  intro k hk
  have := ref_l0 0 l [] 4294967295 k (by decide) hb (by simpa using hl) hk
  simpa [palimpsestref02_Check.f, crc] using this

/-! #### the program's text -/
theorem wire_l2 (ls : List (List Int)) (x10 x11 : Int) (x : List Int) (x16 i : Int) : ∀ (n : Nat) (r : Nat) (j : Int) (k : Nat), r < 4294967296 → j = 8 - (n : Int) → n ≤ 8 → wire_Check.l2 (n + 1 + k) r ls x10 x11 x x16 i j = wire_Check.l1 k (csts n r : Nat) ls x10 x11 x x16 (wrap64 (i + 1))
  | 0, r, j, k, hr, hj, hn => by
    rw [show 0 + 1 + k = k + 1 by omega]
    simp only [wire_Check.l2]
    rw [if_neg (by omega)]
    rfl
  | n + 1, r, j, k, hr, hj, hn => by
    rw [show n + 1 + 1 + k = (n + 1 + k) + 1 by omega]
    simp only [wire_Check.l2]
    rw [if_pos (by omega), bits_and1_u32 r hr]
    have hd : (r : Int) / 2 = ((r / 2 : Nat) : Int) := by omega
    rw [hd]
    have e : wrap64 (j + 1) = j + 1 := by unfold wrap64; omega
    rw [e]
    by_cases h : r % 2 = 1
    · rw [if_pos (by omega)]
      rw [show (3988292384 : Int) = ((3988292384 : Nat) : Int) from rfl, bits_xor_u32_nat _ _ (by omega) (by decide)]
      have hc : cst r = (r / 2) ^^^ 3988292384 := by unfold cst; rw [if_pos h]
      rw [← hc, wire_l2 ls x10 x11 x x16 i n (cst r) (j + 1) k (cst_lt hr) (by omega) (by omega)]
      rfl
    · rw [if_neg (by omega)]
      have hc : cst r = r / 2 := by unfold cst; rw [if_neg h]
      rw [← hc, wire_l2 ls x10 x11 x x16 i n (cst r) (j + 1) k (cst_lt hr) (by omega) (by omega)]
      rfl
theorem wire_l1 (ls : List (List Int)) (x10 x11 : Int) : ∀ (l m : List Int) (r : Nat) (k : Nat), r < 4294967296 → Bytes l → (m ++ l).length ≤ 140737488355328 → wire_Check.l1 (10 * l.length + 1 + k) r ls x10 x11 (m ++ l) ((m ++ l).length : Int) (m.length : Int) = wire_Check.l0 k (crcs r l : Nat) ls x10 (wrap64 (x11 + 1))
  | [], m, r, k, hr, hb, hl => by
    rw [List.length_nil, show 10 * 0 + 1 + k = k + 1 by omega]
    simp only [wire_Check.l1]
    rw [if_neg (by simp)]
    rfl
  | b :: l, m, r, k, hr, hb, hl => by
    have hb1 := hb b List.mem_cons_self
    have hl' := hl
    rw [List.length_append, List.length_cons] at hl'
    rw [List.length_cons, show 10 * (l.length + 1) + 1 + k = (8 + 1 + (10 * l.length + 1 + k)) + 1 by omega]
    obtain ⟨n, rfl⟩ := Int.eq_ofNat_of_zero_le hb1.1
    simp only [wire_Check.l1]
    rw [if_pos (by simp; omega), if_pos (by omega), if_pos (by simp; omega), rd_cons]
    have hx : ((n : Int) % 4294967296) = ((n : Nat) : Int) := by omega
    rw [hx, bits_xor_u32_nat _ _ hr (by omega), wire_l2 _ _ _ _ _ _ 8 _ 0 _ (Nat.xor_lt_two_pow (n := 32) hr (by omega)) (by omega) (by omega)]
    rw [w1 (by omega) (by omega)]
    have := wire_l1 ls x10 x11 l (m ++ [(n : Int)]) (cby r n) k (cby_lt hr (by omega)) (fun x hx => hb x (List.mem_cons_of_mem _ hx)) (by simp; omega)
    simp only [List.append_assoc, List.cons_append, List.nil_append, List.length_append, List.length_cons, List.length_nil] at this ⊢
    have e : ((m.length + (0 + 1) : Nat) : Int) = (m.length : Int) + 1 := by omega
    rw [e] at this
    exact this
theorem rd2_cons {x : List Int} {l m : List (List Int)} : rd_L2 (m ++ x :: l) (m.length : Int) = x := by
  unfold rd_L2
  simp
/-- How many rounds. -/
def wrounds : List (List Int) → Nat
  | [] => 1
  | l :: ls => 10 * l.length + 2 + wrounds ls
theorem wire_l0 : ∀ (ls ms : List (List Int)) (r : Nat) (k : Nat), r < 4294967296 → (∀ l ∈ ls, Bytes l ∧ l.length ≤ 140737488355328) → (ms ++ ls).length ≤ 140737488355328 → wrounds ls ≤ k → wire_Check.l0 k r (ms ++ ls) ((ms ++ ls).length : Int) (ms.length : Int) = some ((4294967295 ^^^ crcs r ls.flatten : Nat) : Int)
  | [], ms, r, k, hr, hb, hl, hk => by
    unfold wrounds at hk
    obtain ⟨k, rfl⟩ : ∃ j, k = j + 1 := ⟨k - 1, by omega⟩
    simp only [wire_Check.l0]
    rw [if_neg (by simp)]
    rw [show (4294967295 : Int) = ((4294967295 : Nat) : Int) from rfl, bits_xor_u32_nat _ _ (by decide) hr]
    rfl
  | l :: ls, ms, r, k, hr, hb, hl, hk => by
    have h1 := hb l List.mem_cons_self
    unfold wrounds at hk
    have hl' := hl
    rw [List.length_append, List.length_cons] at hl'
    obtain ⟨k, rfl⟩ : ∃ j, k = (10 * l.length + 1 + j) + 1 := ⟨k - (10 * l.length + 2), by omega⟩
    simp only [wire_Check.l0]
    rw [if_pos (by simp; omega), if_pos (by omega), if_pos (by simp; omega), rd2_cons]
    have := wire_l1 (ms ++ l :: ls) ((ms ++ l :: ls).length : Int) (ms.length : Int) l [] r k hr h1.1 (by simpa using h1.2)
    simp only [List.nil_append, List.length_nil] at this
    rw [show ((0 : Nat) : Int) = 0 from rfl] at this
    rw [this, w1 (by omega) (by omega)]
    have h2 := wire_l0 ls (ms ++ [l]) (crcs r l) k (crcs_lt l h1.1 hr) (fun x hx => hb x (List.mem_cons_of_mem _ hx)) (by simp; omega) (by omega)
    simp only [List.append_assoc, List.cons_append, List.nil_append, List.length_append, List.length_cons, List.length_nil, List.flatten_cons, crcs_append] at h2 ⊢
    have e : ((ms.length + (0 + 1) : Nat) : Int) = (ms.length : Int) + 1 := by omega
    rw [e] at h2
    exact h2
theorem wire_check {ls : List (List Int)} (hb : ∀ l ∈ ls, Bytes l ∧ l.length ≤ 140737488355328) (hl : ls.length ≤ 140737488355328) : ∀ k, wrounds ls ≤ k → wire_Check.f k ls = some (crc ls.flatten) := by
  intro k hk
  have := wire_l0 ls [] 4294967295 k (by decide) hb (by simpa using hl) hk
  simpa [wire_Check.f, crc] using this
end Go.Proofs.Ytbphmpncajfaiaa.M
