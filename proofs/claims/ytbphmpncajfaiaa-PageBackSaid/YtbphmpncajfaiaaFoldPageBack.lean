/- For every input PageBack answers true: pages come back from their sectors, and sectors have one form but for bytes 0. -/
import Derived.Test.YtbphmpncajfaiaaJBase2
import Derived.Below
import Derived.Orders
import Derived.OrdersHeld
import Derived.WalkKit
import Derived.Test.YtbphmpncajfaiaaWShare
import Derived.Test.YtbphmpncajfaiaaWApart
import Derived.Laws.AppendOwn
import Derived.BigQuiet
import Derived.Test.YtbphmpncajfaiaaRows
/- Set of Diff: pure; cells compared. -/
namespace Go.Proofs.Ytbphmpncajfaiaa.K
open Go.RowKit Go.Proofs.Ytbphmpncajfaiaa.M Go.Proofs.Ytbphmpncajfaiaa.Py Go.Proofs.YtbphmpncajfaiaaW.PrintWords Go.Proofs.YtbphmpncajfaiaaW.PrintLast Go.Proofs.YtbphmpncajfaiaaW.PrintMore
set_option linter.unusedVariables false
set_option linter.unusedSimpArgs false
theorem gate_op {P : Program} {ops : Array Oper} {rest : List Oper} {o : Oper} {a : Act} {Q : Exit → Act → World → Prop} {W : World} (op : Op) (ho : o.op = op) (h : wpList P ops Q (o :: rest) a W) : wpList P ops Q (o :: rest) a W := h
theorem guard63 (op : BinOp) (x y : Operand) (w : World) (a b : Array Value) : (eqGuard op 63 x y (.agg a) (.agg b)).run Try.prog w = .ok () w := run_eqGuard_agg w op 63 x y a b (by kernel_rfl)
section
variable {ops : Array Oper} {rest : List Oper} {o : Oper} {a : Act} {Q : Exit → Act → World → Prop}
theorem cells_neq {W : World} (hgd : o.guard = none) (x y : Operand) (ho : o.op = .binOp .neq 63 x y 63) (p q : List Int) (hx : a.eval x = .agg (pg p)) (hy : a.eval y = .agg (pg q)) (hp : p.length = 60) (hq : q.length = 60) (b : Bool) (hb : decide (p = q) = b) (h : wpList Try.prog ops Q rest (a.put o.dst (.bool !b)) W) : wpList Try.prog ops Q (o :: rest) a W := by
  refine Kd.event_run hgd (v := .bool !b) (w1 := W) ?_ h
  simp [execOp, ho, hx, hy, Sem.run_bind, guard63, run_neq_struct, run_eq63 9998 _ _ _ hp hq, hb]
end
theorem setOf_append : ∀ (xs ys : List (Int × Int)) (p q : List Int), setOf p xs = (q, none) → setOf p (xs ++ ys) = setOf q ys
  | [], ys, p, q, h => by
    rw [setOf] at h
    injection h with h1 _
    rw [h1]; rfl
  | (i, v) :: xs, ys, p, q, h => by
    rw [setOf] at h
    rw [List.cons_append, setOf]
    by_cases hc : i < 0 ∨ 60 ≤ i
    · rw [if_pos hc] at h; injection h with _ h2; cases h2
    · rw [if_neg hc] at h ⊢
      exact setOf_append xs ys _ q h
/-- The first x cells of one page, the others of the other. -/
def mix (m : Int) (a b : List Int) (x : Nat) : List Int := m :: (List.range 60).map (fun i => if i < x then rd a i else rd b i)
theorem rd_all {l : List Int} (h : l.length = 60) : (List.range 60).map (fun (i : Nat) => rd l (i : Int)) = l := by
  apply List.ext_getElem (by simp [h])
  intro i h1 h2
  rw [List.getElem_map, List.getElem_range, el_rd h2]
theorem mix_zero (m : Int) (a : List Int) {b : List Int} (h : b.length = 60) : mix m a b 0 = m :: b := by
  unfold mix
  congr 1
  refine Eq.trans (List.map_congr_left (fun i _ => ?_)) (rd_all h)
  rw [if_neg (by omega)]
theorem mix_full (m : Int) {a : List Int} (b : List Int) (h : a.length = 60) : mix m a b 60 = m :: a := by
  unfold mix
  congr 1
  refine Eq.trans (List.map_congr_left (fun i hi => ?_)) (rd_all h)
  rw [if_pos (List.mem_range.1 hi)]
theorem mix_step (m : Int) (a b : List Int) (x : Nat) (h : x < 60) : (mix m a b x).set (1 + x) (rd a x) = mix m a b (x + 1) := by
  unfold mix
  rw [show 1 + x = x + 1 by omega, List.set_cons_succ]
  congr 1
  apply List.ext_getElem?
  intro j
  rw [List.getElem?_set]
  simp only [List.length_map, List.length_range, List.getElem?_map]
  by_cases hj : x = j
  · subst hj
    simp [h]
  · rw [if_neg hj]
    by_cases hl : j < 60
    · simp only [List.getElem?_range hl, Option.map_some, Option.some.injEq]
      by_cases h1 : j < x
      · rw [if_pos h1, if_pos (by omega)]
      · rw [if_neg h1, if_neg (by omega)]
    · rw [List.getElem?_eq_none (by simp; omega)]
      rfl
theorem mix_same (m : Int) (a b : List Int) (x : Nat) (h : rd a x = rd b x) : mix m a b x = mix m a b (x + 1) := by
  unfold mix
  congr 1
  refine List.map_congr_left (fun i _ => ?_)
  by_cases h1 : i < x
  · rw [if_pos h1, if_pos (by omega)]
  · by_cases h2 : i = x
    · subst h2
      rw [if_neg h1, if_pos (by omega), h]
    · rw [if_neg h1, if_neg (by omega)]
theorem set_diffs (m : Int) (a b : List Int) (hb : b.length = 60) : ∀ x : Nat, x ≤ 60 → setOf (m :: b) (diffOf a b x) = (mix m a b x, none)
  | 0, _ => by rw [mix_zero m a hb]; rfl
  | x + 1, h => by
    have ih := set_diffs m a b hb x (by omega)
    rw [diff_succ, setOf_append _ _ _ _ ih]
    by_cases hx : rd a x = rd b x
    · rw [if_neg (by simp [hx]), setOf, mix_same m a b x hx]
    · rw [if_pos hx, setOf, if_neg (by omega), setOf, Int.toNat_natCast, mix_step m a b x (by omega)]
theorem set_diff (m n : Int) {a b : List Int} (ha : a.length = 60) (hb : b.length = 60) : setOf (m :: b) (diffP (n :: a) (m :: b)) = (m :: a, none) := by
  unfold diffP
  rw [List.tail_cons, List.tail_cons, set_diffs m a b hb 60 (Nat.le_refl _), mix_full m b ha]
theorem diff_mem {a b : List Int} {x : Nat} {p : Int × Int} (h : p ∈ diffOf a b x) : 0 ≤ p.1 ∧ p.1 < x ∧ p.2 = rd a p.1 ∧ rd b p.1 ≠ p.2 := by
  unfold diffOf at h
  obtain ⟨i, hi, hp⟩ := List.mem_filterMap.1 h
  have hi := List.mem_range.1 hi
  by_cases hc : rd a (i : Int) ≠ rd b (i : Int)
  · rw [if_pos hc] at hp
    injection hp with hp
    subst hp
    exact ⟨by simp, by simpa using hi, rfl, fun e => hc e.symm⟩
  · rw [if_neg hc] at hp
    cases hp
theorem diff_sorted (a b : List Int) : ∀ x : Nat, (diffOf a b x).Pairwise (fun p q => p.1 < q.1)
  | 0 => by simp [diffOf]
  | x + 1 => by
    rw [diff_succ]
    refine List.pairwise_append.2 ⟨diff_sorted a b x, ?_, ?_⟩
    · split <;> simp
    · intro p hp q hq
      have h1 := (diff_mem hp).2.1
      split at hq
      · rw [List.mem_singleton] at hq
        subst hq
        exact h1
      · cases hq
theorem diff_at {p q : List Int} {x : Int} (h0 : 0 ≤ x) (h1 : x < (diffP p q).length) : ∃ i v, (diffP p q).getD x.toNat (0, 0) = (i, v) ∧ 0 ≤ i ∧ i < 60 ∧ rd q.tail i ≠ v ∧ (0 < x → ((diffP p q).getD (x - 1).toNat (0, 0)).1 < i) := by
  have hx : x.toNat < (diffP p q).length := by omega
  have hm := diff_mem (List.getElem_mem hx)
  refine ⟨((diffP p q)[x.toNat]).1, ((diffP p q)[x.toNat]).2, ?_, hm.1, hm.2.1, hm.2.2.2, fun hp => ?_⟩
  · rw [List.getD_eq_getElem?_getD, List.getElem?_eq_getElem hx]; rfl
  · have hs := List.pairwise_iff_getElem.1 (diff_sorted p.tail q.tail 60) (x - 1).toNat x.toNat (by unfold diffP at hx; omega) hx (by omega)
    rw [List.getD_eq_getElem?_getD, List.getElem?_eq_getElem (show (x - 1).toNat < (diffP p q).length by omega)]
    exact hs
theorem rd_cons_succ (m : Int) (l : List Int) {i : Int} (h : 0 ≤ i) : rd (m :: l) (i + 1) = rd l i := by
  unfold rd
  rw [show (i + 1).toNat = i.toNat + 1 by omega]
  rfl
end Go.Proofs.Ytbphmpncajfaiaa.K
/- Words: a region whose order is open, whose operations read and make memory: each operation shown once, whatever stands behind it already. -/
namespace Go.Proofs.Ytbphmpncajfaiaa.K
open Go.RowKit Go.ChangeShapes
variable {P : Program} {ops : Array Oper} {Q : Exit → Act → World → Prop}
def fillN (a : Act) (N : Nat → Tmp) (vs : Nat → Value) : Nat → Act
  | 0 => a
  | k + 1 => (fillN a N vs k).put (some (N k)) (vs k)
theorem fillN_defers (a : Act) (N : Nat → Tmp) (vs : Nat → Value) : ∀ k, (fillN a N vs k).defers = a.defers
  | 0 => rfl
  | k + 1 => fillN_defers a N vs k
theorem fillN_size (a : Act) (N : Nat → Tmp) (vs : Nat → Value) : ∀ k, (fillN a N vs k).tmps.size = a.tmps.size
  | 0 => rfl
  | k + 1 => by
    show ((fillN a N vs k).tmps.setIfInBounds (N k) (vs k)).size = _
    rw [Array.size_setIfInBounds, fillN_size a N vs k]
theorem fillN_other (a : Act) (N : Nat → Tmp) (vs : Nat → Value) (t : Tmp) : ∀ k, (∀ i, i < k → N i ≠ t) → (fillN a N vs k).tmps[t]? = a.tmps[t]?
  | 0, _ => rfl
  | k + 1, h => by
    show ((fillN a N vs k).tmps.setIfInBounds (N k) (vs k))[t]? = _
    rw [Array.getElem?_setIfInBounds_ne (h k (by omega)), fillN_other a N vs t k (fun i hi => h i (by omega))]
theorem fillN_at (a : Act) (N : Nat → Tmp) (vs : Nat → Value) (hs : ∀ i, N i < a.tmps.size ∨ True) : ∀ k, (∀ i j, i < k → j < k → N i = N j → i = j) → (∀ i, i < k → N i < a.tmps.size) → ∀ i, i < k → (fillN a N vs k).tmps[N i]? = some (vs i)
  | 0, _, _, i, hi => by omega
  | k + 1, hinj, hsz, i, hi => by
    show ((fillN a N vs k).tmps.setIfInBounds (N k) (vs k))[N i]? = _
    by_cases h : i = k
    · subst h
      rw [Array.getElem?_setIfInBounds_self_of_lt (by rw [fillN_size]; exact hsz i (by omega))]
    · rw [Array.getElem?_setIfInBounds_ne (fun e => h (hinj i k hi (by omega) e.symm))]
      exact fillN_at a N vs hs k (fun x y hx hy => hinj x y (by omega) (by omega)) (fun x hx => hsz x (by omega)) i (by omega)
def unlisted (l : Array Bool) : Nat := (l.toList.filter (fun b => !b)).length
theorem unlisted_set {l : Array Bool} {i : Nat} (hi : i < l.size) (h : l[i] = false) : unlisted l = unlisted (l.setIfInBounds i true) + 1 := by
  unfold unlisted
  obtain ⟨l⟩ := l
  simp only [List.setIfInBounds_toArray] at *
  simp only [List.size_toArray, List.getElem_toArray] at hi h
  induction l generalizing i with
  | nil => simp at hi
  | cons b l ih =>
    cases i with
    | zero =>
      simp only [List.getElem_cons_zero] at h
      subst h
      simp
    | succ i =>
      simp only [List.getElem_cons_succ] at h
      have := ih (i := i) (by simpa using hi) h
      cases b <;> simp_all
theorem unlisted_zero {l : Array Bool} (h : unlisted l = 0) : ∀ i (hi : i < l.size), l[i] = true := by
  intro i hi
  unfold unlisted at h
  have h1 := List.eq_nil_of_length_eq_zero h
  have h2 := List.filter_eq_nil_iff.1 h1 l[i] (by simp)
  simpa using h2
theorem region_mem {id n : Nat} {a0 : Act} {w0 : World} (hm : P.follows .mixedOrders = true) (hn : ops.size = n) (N : Nat → Tmp) (hN : ∀ i o, ops[i]? = some o → o.dst = some (N i)) (hinj : ∀ i j, i < n → j < n → N i = N j → i = j) (hsz : ∀ i, i < n → N i < a0.tmps.size)
    (hdag : ∀ i o, ops[i]? = some o → ∀ e ∈ o.after, Region.binds .any e = true → e.on < i)
    (S : Nat → Value → World → Prop) (hS : ∀ i v w w', S i v w → Below w.heap.size w w' → S i v w')
    (step : ∀ i o a w, ops[i]? = some o → a.defers = a0.defers → a.tmps.size = a0.tmps.size → (∀ t, (∀ j, j < n → N j ≠ t) → a.tmps[t]? = a0.tmps[t]?) → Below w0.heap.size w0 w →
      (∀ e ∈ o.after, Region.binds .any e = true → ∃ v, a.tmps[N e.on]? = some v ∧ S e.on v w) →
      if Region.wanted o (yielded ops a.tmps) = true then o.wp P a w (fun a' w' => ∃ v, a' = a.put o.dst v ∧ S i v w' ∧ Below w.heap.size w w') Q else S i undef w)
    (hend : ∀ (vs : Nat → Value) (w : World), Below w0.heap.size w0 w → (∀ i, i < n → S i (vs i) w) → Q .normal (fillN a0 N vs n) w) : (Code.region id ops true).wp P Q a0 w0 := by
  refine wp_region_any hm ?_
  have key : ∀ (fuel : Nat) (listed : Array Bool) (a : Act) (w : World), listed.size = n → unlisted listed ≤ fuel → a.defers = a0.defers → a.tmps.size = a0.tmps.size → (∀ t, (∀ j, j < n → N j ≠ t) → a.tmps[t]? = a0.tmps[t]?) → Below w0.heap.size w0 w →
      (∀ i, i < n → listed.getD i true = true → ∃ v, a.tmps[N i]? = some v ∧ S i v w) → wpAny P .any ops Q fuel listed a w := by
    have fin : ∀ (listed : Array Bool) (a : Act) (w : World), a.defers = a0.defers → a.tmps.size = a0.tmps.size → (∀ t, (∀ j, j < n → N j ≠ t) → a.tmps[t]? = a0.tmps[t]?) → Below w0.heap.size w0 w →
        (∀ i, i < n → ∃ v, a.tmps[N i]? = some v ∧ S i v w) → Q .normal a w := by
      intro listed a w hd hs hf hb hall
      have he : a = fillN a0 N (fun i => a.tmps.getD (N i) undef) n := by
        have ht : a.tmps = (fillN a0 N (fun i => a.tmps.getD (N i) undef) n).tmps := by
          apply Array.ext_getElem?
          intro t
          by_cases hx : ∃ i, i < n ∧ N i = t
          · obtain ⟨i, hi, rfl⟩ := hx
            rw [fillN_at a0 N _ (fun _ => .inr trivial) n hinj hsz i hi]
            obtain ⟨v, hv, _⟩ := hall i hi
            rw [hv, Array.getD_eq_getD_getElem?, hv]
            rfl
          · rw [fillN_other a0 N _ t n (fun i hi e => hx ⟨i, hi, e⟩)]
            exact hf t (fun j hj e => hx ⟨j, hj, e⟩)
        have hdd : a.defers = (fillN a0 N (fun i => a.tmps.getD (N i) undef) n).defers := by rw [fillN_defers]; exact hd
        cases a
        simp only at ht hdd
        generalize fillN a0 N _ n = b at ht hdd ⊢
        cases b
        simp only at ht hdd
        rw [← ht, ← hdd]
      rw [he]
      refine hend _ w hb (fun i hi => ?_)
      obtain ⟨v, hv, hs'⟩ := hall i hi
      rw [Array.getD_eq_getD_getElem?, hv]
      exact hs'
    have all_of : ∀ (listed : Array Bool), listed.size = n → Region.ready .any ops listed = [] → ∀ i, i < n → listed.getD i true = true := by
      intro listed hl hr i
      induction i using Nat.strongRecOn with
      | ind i ih =>
        intro hi
        cases hv : listed.getD i true with
        | true => rfl
        | false =>
          exfalso
          have hmem : i ∈ Region.ready .any ops listed := by
            unfold Region.ready
            refine List.mem_filter.2 ⟨List.mem_range.2 (by omega), ?_⟩
            have ho : ops[i]? = some ops[i] := Array.getElem?_eq_getElem (by omega)
            rw [hv, ho]
            simp only [Bool.not_false, Bool.true_and, Option.map_some, Option.getD_some]
            rw [Array.all_eq_true']
            intro e he
            cases hb : Region.binds .any e with
            | false => rfl
            | true =>
              have hlt := hdag i _ ho e he hb
              have h3 := ih e.on hlt (by omega)
              rw [Array.getD_eq_getD_getElem?, Array.getElem?_eq_getElem (show e.on < listed.size by omega)] at h3
              simp only [Option.getD_some] at h3
              rw [Array.getD_eq_getD_getElem?, Array.getElem?_eq_getElem (show e.on < listed.size by omega)]
              simp [h3]
          rw [hr] at hmem
          cases hmem
    intro fuel
    induction fuel with
    | zero =>
      intro listed a w hl hu hd hs hf hb hP
      have hall : ∀ i, i < n → listed.getD i true = true := fun i hi => by
        rw [Array.getD_eq_getD_getElem?, Array.getElem?_eq_getElem (by omega)]
        exact unlisted_zero (by omega) i (by omega)
      refine ⟨?_, fin listed a w hd hs hf hb (fun i hi => hP i hi (hall i hi))⟩
      refine List.eq_nil_iff_forall_not_mem.2 (fun i hi => ?_)
      unfold Region.ready at hi
      obtain ⟨h1, h2⟩ := List.mem_filter.1 hi
      rw [hall i (by have := List.mem_range.1 h1; omega)] at h2
      simp at h2
    | succ fuel ih =>
      intro listed a w hl hu hd hs hf hb hP
      refine ⟨fun hr => fin listed a w hd hs hf hb (fun i hi => hP i hi (all_of listed hl hr i hi)), fun i hi => ?_⟩
      unfold Region.ready at hi
      obtain ⟨h1, h2⟩ := List.mem_filter.1 hi
      have hin : i < n := by have := List.mem_range.1 h1; omega
      have ho : ops[i]? = some ops[i] := Array.getElem?_eq_getElem (by omega)
      rw [ho] at h2
      simp only [Option.map_some, Option.getD_some, Bool.and_eq_true, Bool.not_eq_true'] at h2
      have hdep : ∀ e ∈ (ops[i]).after, Region.binds .any e = true → ∃ v, a.tmps[N e.on]? = some v ∧ S e.on v w := by
        intro e he hbd
        have h3 := Array.all_eq_true'.1 h2.2 e he
        rw [hbd] at h3
        simp only [Bool.not_true, Bool.false_or] at h3
        have hlt := hdag i _ ho e he hbd
        refine hP e.on (by omega) ?_
        rw [Array.getD_eq_getD_getElem?, Array.getElem?_eq_getElem (show e.on < listed.size by omega)] at h3 ⊢
        simpa using h3
      have hst := step i _ a w ho hd hs hf hb hdep
      have hlf : listed[i]'(by omega) = false := by
        have h3 := h2.1
        rw [Array.getD_eq_getD_getElem?, Array.getElem?_eq_getElem (by omega)] at h3
        simpa using h3
      have hun := unlisted_set (i := i) (by omega) hlf
      have go : ∀ (v : Value) (w' : World), S i v w' → Below w.heap.size w w' → wpAny P .any ops Q fuel (listed.setIfInBounds i true) (a.put (ops[i]).dst v) w' := by
        intro v w' hv hbw
        rw [hN i _ ho]
        refine ih _ _ _ (by rw [Array.size_setIfInBounds]; exact hl) (by omega) hd (by show (a.tmps.setIfInBounds (N i) v).size = _; rw [Array.size_setIfInBounds]; exact hs) ?_ ?_ ?_
        · intro t ht
          show (a.tmps.setIfInBounds (N i) v)[t]? = _
          rw [Array.getElem?_setIfInBounds_ne (ht i hin)]
          exact hf t ht
        · exact (hb.trans (Below.mono hbw hb.size))
        · intro j hj hlj
          show ∃ v', (a.tmps.setIfInBounds (N i) v)[N j]? = some v' ∧ S j v' w'
          by_cases hji : j = i
          · subst hji
            rw [Array.getElem?_setIfInBounds_self_of_lt (by rw [hs]; exact hsz j hj)]
            exact ⟨v, rfl, hv⟩
          · rw [Array.getElem?_setIfInBounds_ne (fun e => hji (hinj j i hj hin e.symm))]
            have hlj' : listed.getD j true = true := by
              rw [Array.getD_eq_getD_getElem?, Array.getElem?_setIfInBounds_ne (fun e => hji e.symm)] at hlj
              rw [Array.getD_eq_getD_getElem?]
              exact hlj
            obtain ⟨v', h3, h4⟩ := hP j hj hlj'
            exact ⟨v', h3, hS j v' w w' h4 hbw⟩
      unfold wpOp
      rw [ho]
      simp only
      by_cases hw : Region.wanted ops[i] (yielded ops a.tmps) = true
      · rw [if_pos hw] at hst ⊢
        refine .inl (Oper.wp_mono (fun a' w' hh => ?_) hst)
        obtain ⟨v, rfl, hv, hbw⟩ := hh
        exact go v w' hv hbw
      · rw [if_neg hw] at hst ⊢
        exact go undef w hst (Below.refl _ _)
  refine key ops.size _ a0 _ (by rw [Array.size_replicate]; exact hn) ?_ rfl rfl (fun _ _ => rfl) ⟨rfl, rfl, rfl, Nat.le_refl _, fun _ _ => rfl⟩ ?_
  · unfold unlisted
    exact Nat.le_trans (List.length_filter_le _ _) (by simp)
  · intro i hi hh
    rw [Array.getD_eq_getD_getElem?, Array.getElem?_eq_getElem (by rw [Array.size_replicate]; omega)] at hh
    simp at hh
end Go.Proofs.Ytbphmpncajfaiaa.K
namespace Go.Proofs.Ytbphmpncajfaiaa.K
open Go.RowKit Go.ChangeShapes
section
variable {P : Program} {ops : Array Oper} {Q : Exit → Act → World → Prop} {o : Oper} {a : Act} {w w' : World} {v : Value} {S : Value → World → Prop}
theorem reg_value (hw : Region.wanted o (yielded ops a.tmps) = true) (hrun : (execOp a.eval o).run P w = .ok (.value v) w') (hS : S v w') (hb : Below w.heap.size w w') :
    if Region.wanted o (yielded ops a.tmps) = true then o.wp P a w (fun a' w' => ∃ v, a' = a.put o.dst v ∧ S v w' ∧ Below w.heap.size w w') Q else S undef w := by
  rw [if_pos hw]
  unfold Oper.wp
  rw [hrun]
  exact ⟨v, rfl, hS, hb⟩
theorem reg_call {f : FuncId} {args : Array Value} (hw : Region.wanted o (yielded ops a.tmps) = true) (hrun : (execOp a.eval o).run P w = .ok (.enter f args) w) (h : Calls P f args w fun e w' => ∃ v, e = .returned v ∧ S v w' ∧ Below w.heap.size w w') :
    if Region.wanted o (yielded ops a.tmps) = true then o.wp P a w (fun a' w' => ∃ v, a' = a.put o.dst v ∧ S v w' ∧ Below w.heap.size w w') Q else S undef w := by
  rw [if_pos hw]
  unfold Oper.wp
  rw [hrun, Oper.upon_enter]
  refine h.mono fun e w'' hh => ?_
  obtain ⟨v, rfl, hs, hb⟩ := hh
  exact ⟨v, rfl, hs, hb⟩
theorem reg_skip (hw : Region.wanted o (yielded ops a.tmps) = false) (hS : S undef w) :
    if Region.wanted o (yielded ops a.tmps) = true then o.wp P a w (fun a' w' => ∃ v, a' = a.put o.dst v ∧ S v w' ∧ Below w.heap.size w w') Q else S undef w := by
  rw [hw]
  exact hS
theorem ev_of {t : Tmp} (h : a.tmps[t]? = some v) : a.eval (.tmp t) = v := by
  show a.tmps.getD t undef = v
  rw [Array.getD_eq_getD_getElem?, h]
  rfl
theorem enters {f : FuncId} {fn : Func} (hf : P.funcs[f]? = some fn) (hname : (fn.name == "runtime.NumGoroutine") = false) (hb : fn.body.isSome = true) (args : Array Value) (w : World) : (callFunc f args).run P w = .ok (.enter f args) w := by
  have h1 : fn.name ≠ "runtime.NumGoroutine" := by simpa using hname
  obtain ⟨c, hc⟩ := Option.isSome_iff_exists.1 hb
  simp [callFunc, hf, h1, hc]
theorem reg_enters {f : FuncId} {fn : Func} {os : Array Operand} {ts : Array TypeId} (hf : P.funcs[f]? = some fn) (hname : (fn.name == "runtime.NumGoroutine") = false) (hb : fn.body.isSome = true) (args : Array Value)
    (hop : o.op = .call { callee := .value (.func f), args := os, argTypes := ts }) (hargs : os.map a.eval = args) : (execOp a.eval o).run P w = .ok (.enter f args) w := by
  have he := enters hf hname hb args w
  unfold execOp
  simp [hop, resolve, Deferred.ofValue, invoke, Act.eval, hargs, he]
theorem wanted_of (j : Nat) (want b r : Bool) {t : Tmp} (ht : a.tmps[t]? = some (.bool b)) (hg : o.guard = some (j, want)) (hd : (ops[j]?).bind (·.dst) = some t) (hr : (b == want) = r) : Region.wanted o (yielded ops a.tmps) = r := by
  subst hr
  unfold Region.wanted yielded
  rw [hg]
  simp only [hd, Option.bind_some, ht]
  cases b <;> cases want <;> rfl
end
end Go.Proofs.Ytbphmpncajfaiaa.K
/- Words: pages in a region whose order is open. -/
namespace Go.Proofs.Ytbphmpncajfaiaa.K
open Go.RowKit Go.ChangeShapes Go.Proofs.Ytbphmpncajfaiaa.M Go.Proofs.Ytbphmpncajfaiaa.Py Go.Proofs.YtbphmpncajfaiaaW.PrintWords Go.Proofs.YtbphmpncajfaiaaW.PrintLast Go.Proofs.YtbphmpncajfaiaaW.PrintMore
set_option linter.unusedVariables false
set_option linter.unusedSimpArgs false
section
variable {ops : Array Oper} {o : Oper} {a : Act} {W : World}
theorem unwanted_of (j : Nat) (want : Bool) {t : Tmp} (ht : a.tmps[t]? = some undef) (hg : o.guard = some (j, want)) (hd : (ops[j]?).bind (·.dst) = some t) : Region.wanted o (yielded ops a.tmps) = false := by
  unfold Region.wanted yielded
  rw [hg]
  simp only [hd, Option.bind_some, ht]
  cases want <;> rfl
theorem run_page_load (x : Operand) (ho : o.op = .load 65 x) (g : Nat) (l : List Int) (hx : a.eval x = .pointer (some ⟨g, 0, none⟩)) (hp : Page W g l) : (execOp a.eval o).run Try.prog W = .ok (.value (.agg (pg l))) W := by
  have := run_loadVar_row W g 65 65 (pg l) (0, 0) _ hp.1 Try.underlying65 rfl (by rw [pg_size, hp.2]; exact size65)
  simp [execOp, ho, hx, Instr.loadAt, Instr.sureAddr, Sem.run_bind, this]
theorem run_page_blank (ho : o.op = .build 65 #[]) (l : List Int) (hl : l = List.replicate 61 0) : (execOp a.eval o).run Try.prog W = .ok (.value (.agg (pg l))) W := by
  subst hl
  have := run_build (P := Try.prog) W 65 #[] _ blank65
  simp [execOp, ho, this, Sem.run_bind]
theorem run_page_eql (x y : Operand) (ho : o.op = .binOp .eql 65 x y 65) (p q : List Int) (hx : a.eval x = .agg (pg p)) (hy : a.eval y = .agg (pg q)) (hp : p.length = 61) (hq : q.length = 61) (b : Bool) (hb : decide (p = q) = b) : (execOp a.eval o).run Try.prog W = .ok (.value (.bool b)) W := by
  simp [execOp, ho, hx, hy, Sem.run_bind, guard65, run_eql_struct, page_same hp hq, hb]
theorem run_page_neq (x y : Operand) (ho : o.op = .binOp .neq 65 x y 65) (p q : List Int) (hx : a.eval x = .agg (pg p)) (hy : a.eval y = .agg (pg q)) (hp : p.length = 61) (hq : q.length = 61) (b : Bool) (hb : decide (p = q) = b) : (execOp a.eval o).run Try.prog W = .ok (.value (.bool !b)) W := by
  simp [execOp, ho, hx, hy, Sem.run_bind, guard65, run_neq_struct, page_same hp hq, hb]
theorem run_make512 (x y : Operand) (ho : o.op = .makeSlice 22 x y) (hx : a.eval x = .int .i64 512) (hy : a.eval y = .int .i64 512) :
    ∃ w1, (execOp a.eval o).run Try.prog W = .ok (.value (.slice (some ⟨W.heap.size, 0, none⟩) 512 512)) w1 ∧ Below W.heap.size W w1 ∧ Kd.C (Kd.int .u8) w1 (some ⟨W.heap.size, 0, none⟩) 512 (List.replicate 512 0) := by
  obtain ⟨i0, hi, hzz⟩ := Option.map_eq_some_iff.1 info5
  simp only [Prod.mk.injEq] at hzz
  obtain ⟨hz0, hz1, hz2⟩ := hzz
  have hr := run_make (P := Try.prog) W 22 5 i0 (.int .u8 0) Try.underlying22 hi hz0 .i64 .i64 512 512 (by omega) (by omega)
    (by rw [hz2]; omega) (by omega)
  rw [hz1] at hr
  have hrow : (Kd.int .u8).R 5 (W.alloc (.cells (madeCells (Value.int .u8 0).cells (512 * 1)) 5)) W.heap.size (fun _ => True) (.slice (some ⟨W.heap.size, 0, none⟩) 512 512) (List.replicate 512 0) := by
    refine ⟨fun k hk => trivial, (madeCells (Value.int .u8 0).cells (512 * 1)).toList, ?_, ?_⟩
    · have h2 := World.ownsRow_lit (base := W.heap.size) (e := 5) (size := 1) W (madeCells (Value.int .u8 0).cells (512 * 1)) 512 (Nat.le_refl _) (by unfold maxLen; omega) (by simp [size_madeCells])
      rw [show (List.replicate 512 (0 : Int)).length = 512 from List.length_replicate]
      exact h2
    · exact (Kd.reps_made (z := .int .u8 0) (z0 := (0 : Int)) (size := 1) rfl (by decide) (show (Kd.int .u8).M W W.heap.size (fun _ => True) 0 [.int .u8 0] from rfl) 512).imp_ (fun p c hp => hp)
  have hC := (Kd.R_reads' hrow).2.2
  rw [show (List.replicate 512 (0 : Int)).length = 512 from List.length_replicate] at hC
  refine ⟨_, ?_, below_alloc (Below.refl _ _) _, hC⟩
  simp only [execOp, ho, hx, hy, Sem.run_bind]
  rw [show (512 : Int).toNat = 512 from rfl] at hr
  rw [hr]
  rfl
theorem reg_make512 {Q : Exit → Act → World → Prop} {S : Value → World → Prop} (hw : Region.wanted o (yielded ops a.tmps) = true) (x y : Operand) (ho : o.op = .makeSlice 22 x y) (hx : a.eval x = .int .i64 512) (hy : a.eval y = .int .i64 512)
    (hS : ∀ A w1, Kd.C (Kd.int .u8) w1 A 512 (List.replicate 512 0) → S (.slice A 512 512) w1) :
    if Region.wanted o (yielded ops a.tmps) = true then o.wp Try.prog a W (fun a' w' => ∃ v, a' = a.put o.dst v ∧ S v w' ∧ Below W.heap.size W w') Q else S undef W := by
  obtain ⟨w1, hr, hb, hC⟩ := run_make512 (W := W) x y ho hx hy
  exact reg_value hw hr (hS _ _ hC) hb
theorem see_value {P : Program} {Q : Exit → Act → World → Prop} {S : Array Value → World → Prop} {v : Value} {w' : World} (hw : Region.wanted o (yielded ops a.tmps) = true) (hrun : (execOp a.eval o).run P W = .ok (.value v) w') (hS : S (a.put o.dst v).tmps w') (hb : Below W.heap.size W w') :
    if Region.wanted o (yielded ops a.tmps) = true then o.wp P a W (fun a' w' => ∃ v, a' = a.put o.dst v ∧ S (a.put o.dst v).tmps w' ∧ Below W.heap.size W w') Q else S (a.put o.dst undef).tmps W := by
  rw [if_pos hw]
  unfold Oper.wp
  rw [hrun]
  exact ⟨v, rfl, hS, hb⟩
theorem see_call {P : Program} {Q : Exit → Act → World → Prop} {S : Array Value → World → Prop} {f : FuncId} {args : Array Value} (hw : Region.wanted o (yielded ops a.tmps) = true) (hrun : (execOp a.eval o).run P W = .ok (.enter f args) W) (h : Calls P f args W fun e w' => ∃ v, e = .returned v ∧ S (a.put o.dst v).tmps w' ∧ Below W.heap.size W w') :
    if Region.wanted o (yielded ops a.tmps) = true then o.wp P a W (fun a' w' => ∃ v, a' = a.put o.dst v ∧ S (a.put o.dst v).tmps w' ∧ Below W.heap.size W w') Q else S (a.put o.dst undef).tmps W := by
  rw [if_pos hw]
  unfold Oper.wp
  rw [hrun, Oper.upon_enter]
  refine h.mono fun e w'' hh => ?_
  obtain ⟨v, rfl, hs, hb⟩ := hh
  exact ⟨v, rfl, hs, hb⟩
theorem put_self {t : Tmp} {v : Value} (h : t < a.tmps.size) : (a.put (some t) v).tmps[t]? = some v := by
  show (a.tmps.setIfInBounds t v)[t]? = _
  rw [Array.getElem?_setIfInBounds_self_of_lt h]
theorem put_other {t s : Tmp} {v : Value} (h : t ≠ s) : (a.put (some t) v).tmps[s]? = a.tmps[s]? := by
  show (a.tmps.setIfInBounds t v)[s]? = _
  rw [Array.getElem?_setIfInBounds_ne h]
end
/-- A row of bytes in one block, marked. -/
theorem R_tag {w : World} {base g n c : Nat} {ok ok' : Nat → Prop} {xs : List Int} (h : (Kd.int .u8).R 5 w base ok (.slice (some ⟨g, 0, none⟩) n c) xs) (hk : ok' g) : (Kd.int .u8).R 5 w base ok' (.slice (some ⟨g, 0, none⟩) n c) xs :=
  ⟨fun k hk' => by
    have : g = k := by simpa [Value.ownBlock] using hk'
    subst this
    exact hk, h.2⟩
theorem R_below_size {w : World} {base : Nat} {ok : Nat → Prop} {v : Value} {xs : List Int} (h : (Kd.int .u8).R 5 w base ok v xs) (k : Nat) (hk : v.ownBlock = some k) : base ≤ k ∧ k < w.heap.size := by
  obtain ⟨inner, ho⟩ := Kd.R_own h
  exact ⟨own_base ho k hk, own_lt ho k hk⟩
end Go.Proofs.Ytbphmpncajfaiaa.K
/- Words: a region whose order is open, of whose operations each is shown together with those behind which it stands. -/
namespace Go.Proofs.Ytbphmpncajfaiaa.K
open Go.RowKit Go.ChangeShapes
variable {P : Program} {ops : Array Oper} {Q : Exit → Act → World → Prop}
theorem region_see {id n : Nat} {a0 : Act} {w0 : World} (hm : P.follows .mixedOrders = true) (hn : ops.size = n) (N : Nat → Tmp) (hN : ∀ i o, ops[i]? = some o → o.dst = some (N i)) (hinj : ∀ i j, i < n → j < n → N i = N j → i = j) (hsz : ∀ i, i < n → N i < a0.tmps.size)
    (hdag : ∀ i o, ops[i]? = some o → ∀ e ∈ o.after, Region.binds .any e = true → e.on < i)
    (men : Nat → List Nat) (hmen : ∀ i o, ops[i]? = some o → ∀ m ∈ men i, m < n ∧ (m = i ∨ ∃ e ∈ o.after, Region.binds .any e = true ∧ e.on = m)) (S : Nat → Array Value → World → Prop) (hS : ∀ i T T' w w', S i T w → (∀ m ∈ men i, T'[N m]? = T[N m]?) → Below w.heap.size w w' → S i T' w')
    (step : ∀ i o a w, ops[i]? = some o → a.defers = a0.defers → a.tmps.size = a0.tmps.size → (∀ t, (∀ j, j < n → N j ≠ t) → a.tmps[t]? = a0.tmps[t]?) → Below w0.heap.size w0 w →
      (∀ e ∈ o.after, Region.binds .any e = true → S e.on a.tmps w) →
      if Region.wanted o (yielded ops a.tmps) = true then o.wp P a w (fun a' w' => ∃ v, a' = a.put o.dst v ∧ S i (a.put o.dst v).tmps w' ∧ Below w.heap.size w w') Q else S i (a.put o.dst undef).tmps w)
    (hend : ∀ (vs : Nat → Value) (w : World), Below w0.heap.size w0 w → (∀ i, i < n → S i (fillN a0 N vs n).tmps w) → (∀ i, i < n → (fillN a0 N vs n).tmps[N i]? = some (vs i)) → Q .normal (fillN a0 N vs n) w) : (Code.region id ops true).wp P Q a0 w0 := by
  refine wp_region_any hm ?_
  have key : ∀ (fuel : Nat) (listed : Array Bool) (a : Act) (w : World), listed.size = n → unlisted listed ≤ fuel → a.defers = a0.defers → a.tmps.size = a0.tmps.size → (∀ t, (∀ j, j < n → N j ≠ t) → a.tmps[t]? = a0.tmps[t]?) → Below w0.heap.size w0 w →
      (∀ i, i < n → listed.getD i true = true → S i a.tmps w ∧ ∀ m ∈ men i, m < n ∧ listed.getD m true = true) → wpAny P .any ops Q fuel listed a w := by
    have fin : ∀ (listed : Array Bool) (a : Act) (w : World), a.defers = a0.defers → a.tmps.size = a0.tmps.size → (∀ t, (∀ j, j < n → N j ≠ t) → a.tmps[t]? = a0.tmps[t]?) → Below w0.heap.size w0 w →
        (∀ i, i < n → S i a.tmps w) → Q .normal a w := by
      intro listed a w hd hs hf hb hall
      have he : a = fillN a0 N (fun i => a.tmps.getD (N i) undef) n := by
        have ht : a.tmps = (fillN a0 N (fun i => a.tmps.getD (N i) undef) n).tmps := by
          apply Array.ext_getElem?
          intro t
          by_cases hx : ∃ i, i < n ∧ N i = t
          · obtain ⟨i, hi, rfl⟩ := hx
            rw [fillN_at a0 N _ (fun _ => .inr trivial) n hinj hsz i hi]
            have hlt : N i < a.tmps.size := by rw [hs]; exact hsz i hi
            have hv : a.tmps[N i]? = some (a.tmps[N i]'hlt) := Array.getElem?_eq_getElem hlt
            rw [hv, Array.getD_eq_getD_getElem?, hv]
            rfl
          · rw [fillN_other a0 N _ t n (fun i hi e => hx ⟨i, hi, e⟩)]
            exact hf t (fun j hj e => hx ⟨j, hj, e⟩)
        have hdd : a.defers = (fillN a0 N (fun i => a.tmps.getD (N i) undef) n).defers := by rw [fillN_defers]; exact hd
        cases a
        simp only at ht hdd
        generalize fillN a0 N _ n = b at ht hdd ⊢
        cases b
        simp only at ht hdd
        rw [← ht, ← hdd]
      rw [he]
      refine hend _ w hb (fun i hi => ?_) (fun i hi => fillN_at a0 N _ (fun _ => .inr trivial) n hinj hsz i hi)
      have := hall i hi
      rw [he] at this
      exact this
    have all_of : ∀ (listed : Array Bool), listed.size = n → Region.ready .any ops listed = [] → ∀ i, i < n → listed.getD i true = true := by
      intro listed hl hr i
      induction i using Nat.strongRecOn with
      | ind i ih =>
        intro hi
        cases hv : listed.getD i true with
        | true => rfl
        | false =>
          exfalso
          have hmem : i ∈ Region.ready .any ops listed := by
            unfold Region.ready
            refine List.mem_filter.2 ⟨List.mem_range.2 (by omega), ?_⟩
            have ho : ops[i]? = some ops[i] := Array.getElem?_eq_getElem (by omega)
            rw [hv, ho]
            simp only [Bool.not_false, Bool.true_and, Option.map_some, Option.getD_some]
            rw [Array.all_eq_true']
            intro e he
            cases hb : Region.binds .any e with
            | false => rfl
            | true =>
              have hlt := hdag i _ ho e he hb
              have h3 := ih e.on hlt (by omega)
              rw [Array.getD_eq_getD_getElem?, Array.getElem?_eq_getElem (show e.on < listed.size by omega)] at h3
              simp only [Option.getD_some] at h3
              rw [Array.getD_eq_getD_getElem?, Array.getElem?_eq_getElem (show e.on < listed.size by omega)]
              simp [h3]
          rw [hr] at hmem
          cases hmem
    intro fuel
    induction fuel with
    | zero =>
      intro listed a w hl hu hd hs hf hb hP
      have hall : ∀ i, i < n → listed.getD i true = true := fun i hi => by
        rw [Array.getD_eq_getD_getElem?, Array.getElem?_eq_getElem (by omega)]
        exact unlisted_zero (by omega) i (by omega)
      refine ⟨?_, fin listed a w hd hs hf hb (fun i hi => (hP i hi (hall i hi)).1)⟩
      refine List.eq_nil_iff_forall_not_mem.2 (fun i hi => ?_)
      unfold Region.ready at hi
      obtain ⟨h1, h2⟩ := List.mem_filter.1 hi
      rw [hall i (by have := List.mem_range.1 h1; omega)] at h2
      simp at h2
    | succ fuel ih =>
      intro listed a w hl hu hd hs hf hb hP
      refine ⟨fun hr => fin listed a w hd hs hf hb (fun i hi => (hP i hi (all_of listed hl hr i hi)).1), fun i hi => ?_⟩
      unfold Region.ready at hi
      obtain ⟨h1, h2⟩ := List.mem_filter.1 hi
      have hin : i < n := by have := List.mem_range.1 h1; omega
      have ho : ops[i]? = some ops[i] := Array.getElem?_eq_getElem (by omega)
      rw [ho] at h2
      simp only [Option.map_some, Option.getD_some, Bool.and_eq_true, Bool.not_eq_true'] at h2
      have hdl : ∀ e ∈ (ops[i]).after, Region.binds .any e = true → e.on < i ∧ listed.getD e.on true = true := by
        intro e he hbd
        have h3 := Array.all_eq_true'.1 h2.2 e he
        rw [hbd] at h3
        simp only [Bool.not_true, Bool.false_or] at h3
        have hlt := hdag i _ ho e he hbd
        refine ⟨hlt, ?_⟩
        rw [Array.getD_eq_getD_getElem?, Array.getElem?_eq_getElem (show e.on < listed.size by omega)] at h3 ⊢
        simpa using h3
      have hdep : ∀ e ∈ (ops[i]).after, Region.binds .any e = true → S e.on a.tmps w := by
        intro e he hbd
        have h4 := hdl e he hbd
        exact (hP e.on (by omega) h4.2).1
      have hst := step i _ a w ho hd hs hf hb hdep
      have hlf : listed[i]'(by omega) = false := by
        have h3 := h2.1
        rw [Array.getD_eq_getD_getElem?, Array.getElem?_eq_getElem (by omega)] at h3
        simpa using h3
      have hun := unlisted_set (i := i) (by omega) hlf
      have go : ∀ (v : Value) (w' : World), S i (a.put (ops[i]).dst v).tmps w' → Below w.heap.size w w' → wpAny P .any ops Q fuel (listed.setIfInBounds i true) (a.put (ops[i]).dst v) w' := by
        intro v w' hv hbw
        rw [hN i _ ho]
        refine ih _ _ _ (by rw [Array.size_setIfInBounds]; exact hl) (by omega) hd (by show (a.tmps.setIfInBounds (N i) v).size = _; rw [Array.size_setIfInBounds]; exact hs) ?_ ?_ ?_
        · intro t ht
          show (a.tmps.setIfInBounds (N i) v)[t]? = _
          rw [Array.getElem?_setIfInBounds_ne (ht i hin)]
          exact hf t ht
        · exact (hb.trans (Below.mono hbw hb.size))
        · have up : ∀ m, m < n → (m = i ∨ listed.getD m true = true) → (listed.setIfInBounds i true).getD m true = true := by
            intro m hm h
            by_cases hmi : m = i
            · subst hmi
              rw [Array.getD_eq_getD_getElem?, Array.getElem?_setIfInBounds_self_of_lt (by omega)]
              rfl
            · rw [Array.getD_eq_getD_getElem?, Array.getElem?_setIfInBounds_ne (fun e => hmi e.symm), ← Array.getD_eq_getD_getElem?]
              exact h.resolve_left hmi
          intro j hj hlj
          by_cases hji : j = i
          · subst hji
            rw [hN j _ ho] at hv
            refine ⟨hv, fun m hm => ?_⟩
            obtain ⟨h1, h2⟩ := hmen j _ ho m hm
            refine ⟨h1, up m h1 ?_⟩
            rcases h2 with h2 | ⟨e, he, hbd, h2⟩
            · exact .inl h2
            · subst h2
              exact .inr (hdl e he hbd).2
          · have hlj' : listed.getD j true = true := by
              rw [Array.getD_eq_getD_getElem?, Array.getElem?_setIfInBounds_ne (fun e => hji e.symm)] at hlj
              rw [Array.getD_eq_getD_getElem?]
              exact hlj
            obtain ⟨h3, h4⟩ := hP j hj hlj'
            refine ⟨hS j _ _ w w' h3 (fun m hm => ?_) hbw, fun m hm => ⟨(h4 m hm).1, up m (h4 m hm).1 (.inr (h4 m hm).2)⟩⟩
            show (a.tmps.setIfInBounds (N i) v)[N m]? = _
            refine Array.getElem?_setIfInBounds_ne (fun e => ?_)
            have hmi := hinj i m hin (h4 m hm).1 e
            subst hmi
            have h5 := (h4 i hm).2
            rw [Array.getD_eq_getD_getElem?, Array.getElem?_eq_getElem (show i < listed.size by omega)] at h5
            simp [hlf] at h5
      unfold wpOp
      rw [ho]
      simp only
      by_cases hw : Region.wanted ops[i] (yielded ops a.tmps) = true
      · rw [if_pos hw] at hst ⊢
        refine .inl (Oper.wp_mono (fun a' w' hh => ?_) hst)
        obtain ⟨v, rfl, hv, hbw⟩ := hh
        exact go v w' hv hbw
      · rw [if_neg hw] at hst ⊢
        exact go undef w hst (Below.refl _ _)
  refine key ops.size _ a0 _ (by rw [Array.size_replicate]; exact hn) ?_ rfl rfl (fun _ _ => rfl) ⟨rfl, rfl, rfl, Nat.le_refl _, fun _ _ => rfl⟩ ?_
  · unfold unlisted
    exact Nat.le_trans (List.length_filter_le _ _) (by simp)
  · intro i hi hh
    rw [Array.getD_eq_getD_getElem?, Array.getElem?_eq_getElem (by rw [Array.size_replicate]; omega)] at hh
    simp at hh
end Go.Proofs.Ytbphmpncajfaiaa.K
/- Words for Apart: rows of one's own, each with its owner; an append that says what becomes of the elder row. -/
namespace Go.Proofs.Ytbphmpncajfaiaa.K
open Go.RowKit Go.Proofs.YtbphmpncajfaiaaW.PrintWords Go.Proofs.YtbphmpncajfaiaaW.PrintLast Go.Proofs.YtbphmpncajfaiaaW.PrintMore
set_option linter.unusedVariables false
set_option linter.unusedSimpArgs false
def slp (p : Option Addr × Nat × Nat) : Value := .slice p.1 p.2.1 p.2.2
theorem slp_one : ∀ x, (slp x).oneCell' = true := fun _ => rfl
abbrev SL : Kd (Option Addr × Nat × Nat) := Kd.scalar slp slp_one
abbrev U8 : Kd Int := Kd.int .u8
def bval (k j : Int) : Int := (31 * k + 7 * j + 1) % 256
def fill (k n : Nat) : List Int := (List.range n).map (fun j : Nat => bval k j)
theorem fill_len (k n : Nat) : (fill k n).length = n := by simp [fill]
theorem fill_succ (k n : Nat) : fill k (n + 1) = fill k n ++ [bval k n] := by simp [fill, List.range_succ]
theorem fill_take (k : Nat) {m n : Nat} (h : m ≤ n) : (fill k n).take m = fill k m := by
  unfold fill
  rw [← List.map_take, List.take_range, Nat.min_eq_left h]
theorem fill_at (k : Nat) {n : Nat} (j : Int) (h0 : 0 ≤ j) (h : j < n) : rd (fill k n) j = bval k j := by
  obtain ⟨m, rfl⟩ : ∃ m : Nat, j = m := ⟨j.toNat, by omega⟩
  have hm : m < n := by omega
  unfold rd fill
  simp [List.getElem?_range hm]
/-- Rows of one's own may be told of another footprint, where theirs is known. -/
theorem R_retag {α : Type} {d : Kd α} {e base : Nat} {ok ok' : Nat → Prop} {w : World} {v : Value} {xs : List α} (h : d.R e w base ok v xs) (hk : ∀ k, ok k → k < w.heap.size → ok' k) : d.R e w base ok' v xs :=
  Kd.R_mono (Kd.R_bound h) (fun k hk' => hk k hk'.1 hk'.2.2.1)
theorem F_retag {α : Type} {d : Kd α} {n : Nat} {ok ok' : Nat → Prop} {w : World} {A : Option Addr} {xs : List α} (h : Kd.F d w ok A n xs) (hk : ∀ k, ok k → k < w.heap.size → ok' k) : Kd.F d w ok' A n xs :=
  Kd.F_mono (Kd.F_bound h) (fun k hk' => hk k hk'.1 hk'.2)
section
variable {P : Program} {ops : Array Oper} {rest : List Oper} {o : Oper} {a : Act} {Q : Exit → Act → World → Prop}
theorem R_append_keep {W w0 : World} (base : Nat) (hgd : o.guard = none) (s x : Operand) (t : TypeId)
    (ho : o.op = .call { callee := .builtin .append, args := #[s, x], argTypes := #[t, t] })
    (ht : P.underlying t = some (.slice 5)) (hinfo : (P.info? 5).map (fun i => (i.zero, i.size, i.bytes)) = some (some (.int .u8 0), 1, 1))
    (v : Value) (xs : List Int) (p : Int) (ok : Nat → Prop) (hs : a.eval s = v) (hx : a.eval x = .slice (some ⟨W.heap.size, 0, none⟩) 1 1)
    (HO : U8.R 5 W base ok v xs) (hbase : base ≤ W.heap.size) (hl : xs.length + 1 ≤ 140737488355328)
    (h : ∀ v1 w1, (v1.ownBlock = v.ownBlock ∧ U8.R 5 w1 base ok v1 (xs ++ [p]) ∧ W.grownBy w1 v.ownBlock) ∨ (U8.R 5 w1 W.heap.size (fun k => W.heap.size ≤ k) v1 (xs ++ [p]) ∧ Below W.heap.size W w1) → wpList P ops Q rest (a.put o.dst v1) w1) :
    wpList P ops Q (o :: rest) a (W.alloc (.cells #[.int .u8 p] 5)) := by
  obtain ⟨i, hi, hz, hsz, hby⟩ : ∃ i, P.info? 5 = some i ∧ i.zero = some (.int .u8 0) ∧ i.size = 1 ∧ i.bytes = 1 := by
    cases hx : P.info? 5 with
    | none => rw [hx] at hinfo; cases hinfo
    | some i =>
      rw [hx] at hinfo
      simp only [Option.map_some, Option.some.injEq, Prod.mk.injEq] at hinfo
      exact ⟨i, rfl, hinfo.1, hinfo.2.1, hinfo.2.2⟩
  refine wpList_plain hgd fun K hK => ?_
  have hown := Kd.own_of_R (enc := Value.int .u8) (h1 := fun _ => rfl) HO
  have hbx : ∀ j u, [Value.int .u8 p][j]? = some u → (W.alloc (.cells #[.int .u8 p] 5)).cell? ((⟨W.heap.size, 0, none⟩ : Addr).add j) = some u := by
    exact cell_one_new _ _ _
  have hbelow : Below W.heap.size W (W.alloc (.cells #[.int .u8 p] 5)) := below_alloc (Below.refl _ _) _
  have hsm : xs.length + 1 ≤ 9223372036854775807 := by omega
  have hmx : xs.length + 1 ≤ maxLen := by unfold maxLen; omega
  have key : ∃ v1 w1, (Builtin.append_ #[t, t] o.type #[v, .slice (some ⟨W.heap.size, 0, none⟩) 1 1]).run P (W.alloc (.cells #[.int .u8 p] 5)) = .ok v1 w1 ∧
      ((v1.ownBlock = v.ownBlock ∧ U8.R 5 w1 base ok v1 (xs ++ [p]) ∧ W.grownBy w1 v.ownBlock) ∨ (U8.R 5 w1 W.heap.size (fun k => W.heap.size ≤ k) v1 (xs ++ [p]) ∧ Below W.heap.size W w1)) := by
    have hfresh : ∀ (old : Nat), old < xs.length + 1 → ∀ w1, w1 = (W.alloc (.cells #[.int .u8 p] 5)).drew.alloc (.cells ((encs (Value.int .u8) xs).toArray ++ #[Value.int .u8 p] ++ Builtin.zeroCells (Value.int .u8 0).cells (grownCap (W.alloc (.cells #[.int .u8 p] 5)) (xs.length + 1) old 5 - (xs.length + 1))) 5) →
        (U8.R 5 w1 W.heap.size (fun k => W.heap.size ≤ k) (.slice (some ⟨(W.alloc (.cells #[.int .u8 p] 5)).heap.size, 0, none⟩) (xs.length + 1) (grownCap (W.alloc (.cells #[.int .u8 p] 5)) (xs.length + 1) old 5)) (xs ++ [p]) ∧ Below W.heap.size W w1) := by
      intro old hold w1 hw1
      subst hw1
      have hge := grownCap_ge (W.alloc (.cells #[.int .u8 p] 5)) (xs.length + 1) old 5
      have hcm : grownCap (W.alloc (.cells #[.int .u8 p] 5)) (xs.length + 1) old 5 ≤ maxLen := grownCap_le_maxLen _ (xs.length + 1) old 5 hmx
      have hsz1 : (W.alloc (.cells #[.int .u8 p] 5)).heap.size = W.heap.size + 1 := by simp
      refine ⟨Kd.R_of_own (enc := Value.int .u8) (h1 := fun _ => rfl) ⟨by simp [encs], .inr ⟨_, _, _, by simp, by simp, heap_alloc_new (W.alloc (.cells #[.int .u8 p] 5)).drew _, by simpa using hge, hcm, ?_, ?_⟩⟩ ?_, ?_⟩
      · simp only [Array.size_append, List.size_toArray, size_zeroCells, encs, List.length_map]
        simp [Value.cells]
        omega
      · simp only [encs, Nat.mul_one, Array.toList_append, List.append_assoc, List.map_append, List.map_cons, List.map_nil]
        rw [← List.append_assoc]
        exact List.take_left' (by simp)
      · intro k hk
        simp only [Value.ownBlock, Option.some.injEq] at hk
        omega
      · exact below_alloc (below_drew (below_alloc (Below.refl _ _) _)) _
    rcases hown.2 with ⟨rfl, hn⟩ | ⟨g, cap, cur, rfl, hbg, hg, hnc, hcm, hcs, htake⟩
    · have hxn : xs = [] := List.eq_nil_of_length_eq_zero hn
      subst hxn
      have hr := run_append_nil (P := P) (W.alloc (.cells #[.int .u8 p] 5)) t o.type 5 i (.int .u8 0) ht hi hz ⟨W.heap.size, 0, none⟩ 1 1 [.int .u8 p] (by simp [hsz]) hbx (by omega) (by omega) (by rw [hby]; omega)
      refine ⟨_, _, hr, .inr ?_⟩
      have := hfresh 0 (by simp) _ rfl
      simpa [encs] using this
    · have hg1 : (W.alloc (.cells #[.int .u8 p] 5)).heap[g]? = some (.cells cur 5 (0, 0)) := by
        rw [hbelow.block g (Array.getElem?_eq_some_iff.1 hg).1]; exact hg
      have hglt := (Array.getElem?_eq_some_iff.1 hg).1
      by_cases hroom : xs.length + 1 ≤ cap
      · have hr := run_append_room (P := P) (W.alloc (.cells #[.int .u8 p] 5)) t o.type 5 i ht hi g xs.length cap cur hg1 ⟨W.heap.size, 0, none⟩ 1 1 [.int .u8 p] (by simp [hsz]) hbx (by simp; rfl) hroom (by rw [hsz]; simp; omega)
        refine ⟨_, _, hr, .inl ⟨rfl, Kd.R_of_own (enc := Value.int .u8) (h1 := fun _ => rfl) ⟨by simp [encs], .inr ⟨g, cap, _, by simp, hbg, setRow_heap _ g cur _ 5 _ hg1, by simpa using hroom, hcm, ?_, ?_⟩⟩ (fun k hk => HO.1 k hk), ⟨rfl, rfl, rfl, ?_, fun k hk hne => ?_⟩⟩⟩
        · rw [hsz]; simp; omega
        · rw [hsz]
          have hlen : (encs (Value.int .u8) xs).length = xs.length := by simp [encs]
          simp only [Nat.mul_one] at htake ⊢
          rw [htake]
          simp only [encs, List.append_assoc, List.map_append, List.map_cons, List.map_nil]
          rw [← List.append_assoc]
          exact List.take_left' (by simp)
        · simp [World.setRow]
        · rw [setRow_other _ g k _ (fun e => hne (by simp [Value.ownBlock, e]))]
          exact hbelow.block k hk
      · have holds : ∀ j u, (encs (Value.int .u8) xs)[j]? = some u → (W.alloc (.cells #[.int .u8 p] 5)).cell? ((⟨g, 0, none⟩ : Addr).add j) = some u := by
          intro j u hu
          have h1 := hown.cells (g := g) rfl j u hu
          rw [World.cell?_of_block (w := W) (by
            have hadd : ((⟨g, 0, none⟩ : Addr).add j).block = g := by unfold Addr.add; split <;> rfl
            rw [hadd]
            exact hbelow.block g hglt)]
          exact h1
        have hr := run_append_grow (P := P) (W.alloc (.cells #[.int .u8 p] 5)) t o.type 5 i (.int .u8 0) ht hi hz ⟨g, 0, none⟩ xs.length cap (encs (Value.int .u8) xs) (by simp [encs, hsz]) holds ⟨W.heap.size, 0, none⟩ 1 1 [.int .u8 p] (by simp [hsz]) hbx (by omega) (by omega) (growslice_fits (by omega) (by rw [hby]; omega))
        refine ⟨_, _, hr, .inr ?_⟩
        exact hfresh cap (by omega) _ rfl
  obtain ⟨v1, w1, hr, hh⟩ := key
  unfold Oper.wp execOp
  simp only [ho, resolve, invoke, builtin, Sem.run_bind, Sem.run_pure, Result.andThen_ok, List.map_toArray, List.map_cons, List.map_nil, hs, hx, hr]
  exact hK _ _ (h v1 w1 hh)
end
abbrev SP := Option Addr × Nat × Nat
/-- Ahead of row k's cell j: the rows before are filled, so is row k up to j. -/
def Ph1 (f : Nat → Nat) (ps : List SP) (base : Nat) (w : World) (k j : Nat) : Prop :=
  ∃ c : Nat → List Int, ∀ i p, ps[i]? = some p → U8.R 5 w base (fun b => f b = i) (slp p) (c i) ∧ (i < k → c i = fill i p.2.1) ∧ (i = k → (c i).take j = fill k j)
theorem ph1_len {f : Nat → Nat} {i : Nat} {base : Nat} {w : World} {p : SP} {xs : List Int} {ok : Nat → Prop} (h : U8.R 5 w base ok (slp p) xs) : xs.length = p.2.1 := by
  obtain ⟨A, c, he⟩ := Kd.R_slice h
  injection he with h1 h2 h3
  exact h2.symm
theorem ph1_next {f : Nat → Nat} {ps : List SP} {base : Nat} {w : World} {k j : Nat} {p : SP} (h : Ph1 f ps base w k j) (hp : ps[k]? = some p) (hj : p.2.1 ≤ j) : Ph1 f ps base w (k + 1) 0 := by
  obtain ⟨c, hc⟩ := h
  refine ⟨c, fun i q hq => ⟨(hc i q hq).1, fun hi => ?_, fun hi => by simp [fill]⟩⟩
  obtain ⟨h1, h2, h3⟩ := hc i q hq
  by_cases hik : i = k
  · subst hik
    rw [hp] at hq
    injection hq with hq
    subst hq
    have h4 := h3 rfl
    have hl := ph1_len (f := f) (i := i) h1
    rw [List.take_of_length_le (by omega)] at h4
    rw [h4] at hl ⊢
    rw [fill_len] at hl
    rw [hl]
  · exact h2 (by omega)
theorem ph1_store {f : Nat → Nat} {ps : List SP} {base : Nat} {w : World} {k j : Nat} {p : SP} (h : Ph1 f ps base w k j) (hp : ps[k]? = some p) (hj : j < p.2.1) :
    ∃ g, p.1 = some ⟨g, 0, none⟩ ∧ base ≤ g ∧ f g = k ∧ (∃ x, w.cell? ⟨g, j, none⟩ = some (.int .u8 x)) ∧ w.frozen? ⟨g, j, none⟩ = false ∧ Ph1 f ps base (w.setCell ⟨g, j, none⟩ (.int .u8 (bval k j))) k (j + 1) := by
  obtain ⟨c, hc⟩ := h
  obtain ⟨h1, h2, h3⟩ := hc k p hp
  have hl := ph1_len (f := f) (i := k) h1
  obtain ⟨A, n, cc⟩ := p
  simp only at hj hl
  obtain ⟨g, hg, hbg, _, _⟩ := R_form (A := A) (n := n) (c := cc) h1 (by omega)
  subst hg
  have hfg : f g = k := h1.1 g rfl
  have hcell := Kd.R_celln (0 : Int) (n := n) (cap := cc) h1 (j : Int) (by omega) (by omega)
  simp only [Int.toNat_natCast] at hcell
  refine ⟨g, rfl, hbg, hfg, ⟨_, hcell.1⟩, hcell.2, fun i => if i = k then (c k).set j (bval k j) else c i, fun i q hq => ?_⟩
  by_cases hik : i = k
  · subst hik
    rw [hp] at hq
    injection hq with hq
    subst hq
    simp only [if_pos]
    refine ⟨R_put' h1 j (bval i j), fun hh => absurd hh (Nat.lt_irrefl _), fun _ => ?_⟩
    rw [fill_succ, ← h3 rfl]
    rw [List.take_add_one, List.take_set_of_le (Nat.le_refl _), List.getElem?_set_self (by omega)]
    rfl
  · obtain ⟨k1, k2, k3⟩ := hc i q hq
    simp only [if_neg hik]
    exact ⟨Kd.R_far k1 (fun b hb hbg => by simp only at hbg; subst hbg; omega) _, k2, fun h => absurd h hik⟩
/-- The rows but the k-th, and the row of rows. -/
structure Oth (f : Nat → Nat) (ps us : List SP) (O : Option Addr) (base : Nat) (w : World) (k : Nat) : Prop where
  lo : ∀ i p, ps[i]? = some p → k < i → U8.R 5 w base (fun b => f b = i) (slp p) (fill i p.2.1)
  hi : ∀ i p u, ps[i]? = some p → us[i]? = some u → i < k → U8.R 5 w base (fun b => f b = i) (slp u) (fill i (p.2.1 + 12)) ∧ Kd.F U8 w (fun b => f b = i) p.1 p.2.1 (fill i p.2.1)
  ol : Kd.F SL w (fun b => f b = ps.length) O ps.length ps
theorem lt_of_at {α : Type} {l : List α} {i : Nat} {x : α} (h : l[i]? = some x) : i < l.length := (List.getElem?_eq_some_iff.1 h).1
theorem Oth.grown {f : Nat → Nat} {ps us : List SP} {O : Option Addr} {base : Nat} {w w1 : World} {k : Nat} (h : Oth f ps us O base w k) {row : Option Nat} (hg : w.grownBy w1 row)
    (hrow : ∀ b, row = some b → (f b = k ∧ k < ps.length) ∨ ps.length < f b) : Oth f ps us O base w1 k :=
  ⟨fun i p hp hi => Kd.R_grown (h.lo i p hp hi) hg (fun b hb he => by have := lt_of_at hp; rcases hrow b he.symm with ⟨h1, h2⟩ | h1 <;> omega),
   fun i p u hp hu hi => ⟨Kd.R_grown (h.hi i p u hp hu hi).1 hg (fun b hb he => by have := lt_of_at hp; rcases hrow b he.symm with ⟨h1, h2⟩ | h1 <;> omega), Kd.F_grown (h.hi i p u hp hu hi).2 hg (fun b hb he => by have := lt_of_at hp; rcases hrow b he.symm with ⟨h1, h2⟩ | h1 <;> omega)⟩,
   Kd.F_grown h.ol hg (fun b hb he => by rcases hrow b he.symm with ⟨h1, h2⟩ | h1 <;> omega)⟩
theorem Oth.below {f f' : Nat → Nat} {ps us : List SP} {O : Option Addr} {base : Nat} {w w1 : World} {k : Nat} (h : Oth f ps us O base w k) (hb : Below w.heap.size w w1) (hf : ∀ b, b < w.heap.size → f' b = f b) : Oth f' ps us O base w1 k :=
  ⟨fun i p hp hi => Kd.R_below (R_retag (h.lo i p hp hi) (fun b hb hl => by rw [hf b hl]; exact hb)) hb,
   fun i p u hp hu hi => ⟨Kd.R_below (R_retag (h.hi i p u hp hu hi).1 (fun b hb hl => by rw [hf b hl]; exact hb)) hb, Kd.F_below (F_retag (h.hi i p u hp hu hi).2 (fun b hb hl => by rw [hf b hl]; exact hb)) hb⟩,
   Kd.F_below (F_retag h.ol (fun b hb hl => by rw [hf b hl]; exact hb)) hb⟩
/-- Within the loop that appends to row k: q is the row now, m its length. -/
structure Ph2w (f : Nat → Nat) (ps us : List SP) (O : Option Addr) (G : Value) (base : Nat) (w : World) (k : Nat) (p q : SP) (m : Nat) : Prop where
  at_ : ps[k]? = some p
  oth : Oth f ps us O base w k
  gr : SL.R 22 w base (fun b => f b = ps.length + 1) G us
  cur : U8.R 5 w base (fun b => f b = k) (slp q) (fill k m)
  old : p.1 = q.1 ∨ Kd.F U8 w (fun b => f b = k ∧ some b ≠ (slp q).ownBlock) p.1 p.2.1 (fill k p.2.1)
  le : p.2.1 ≤ m
theorem Ph2w.below {f f' : Nat → Nat} {ps us : List SP} {O : Option Addr} {G : Value} {base : Nat} {w w1 : World} {k m : Nat} {p q : SP} (h : Ph2w f ps us O G base w k p q m) (hb : Below w.heap.size w w1) (hf : ∀ b, b < w.heap.size → f' b = f b) : Ph2w f' ps us O G base w1 k p q m :=
  ⟨h.at_, h.oth.below hb hf, Kd.R_below (R_retag h.gr (fun b hb hl => by rw [hf b hl]; exact hb)) hb, Kd.R_below (R_retag h.cur (fun b hb hl => by rw [hf b hl]; exact hb)) hb,
   h.old.imp id (fun h => Kd.F_below (F_retag h (fun b hb hl => by rw [hf b hl]; exact hb)) hb), h.le⟩
theorem Ph2w.oldF {f : Nat → Nat} {ps us : List SP} {O : Option Addr} {G : Value} {base : Nat} {w : World} {k m : Nat} {p q : SP} (h : Ph2w f ps us O G base w k p q m) : Kd.F U8 w (fun b => f b = k) p.1 p.2.1 (fill k p.2.1) := by
  rcases h.old with h1 | h1
  · have h2 := Kd.R_F (Kd.R_take (m := p.2.1) (A := q.1) (n := q.2.1) (c := q.2.2) h.cur (by rw [fill_len]; exact h.le))
    rw [fill_take k h.le] at h2
    rw [h1]
    exact h2
  · exact Kd.F_mono h1 (fun _ hk => hk.1)
theorem Ph2w.append {f : Nat → Nat} {ps us : List SP} {O : Option Addr} {G : Value} {base : Nat} {w w1 : World} {k m : Nat} {p q : SP} {v1 : Value} (h : Ph2w f ps us O G base w k p q m) (hbase : base ≤ w.heap.size) {b : Int} (hbv : b = bval k m)
    (hv : (v1.ownBlock = (slp q).ownBlock ∧ U8.R 5 w1 base (fun b => f b = k) v1 (fill k m ++ [b]) ∧ w.grownBy w1 (slp q).ownBlock) ∨ (U8.R 5 w1 w.heap.size (fun k => w.heap.size ≤ k) v1 (fill k m ++ [b]) ∧ Below w.heap.size w w1)) :
    ∃ f' q1, v1 = slp q1 ∧ Ph2w f' ps us O G base w1 k p q1 (m + 1) := by
  have hk : k < ps.length := lt_of_at h.at_
  have hle := h.le
  subst hbv
  rw [← fill_succ] at hv
  rcases hv with ⟨ho, hr, hg⟩ | ⟨hr, hb⟩
  · obtain ⟨A, c, rfl⟩ := Kd.R_slice hr
    have hrow : ∀ b, (slp q).ownBlock = some b → (f b = k ∧ k < ps.length) ∨ ps.length < f b := fun b hb => .inl ⟨h.cur.1 b hb, hk⟩
    refine ⟨f, (A, (fill k (m + 1)).length, c), rfl, h.at_, h.oth.grown hg hrow, Kd.R_grown h.gr hg (fun b hb he => by have hx : f b = k := h.cur.1 b he.symm; omega), hr, ?_, by omega⟩
    rcases h.old with h1 | h1
    · left
      obtain ⟨g, hA, _⟩ := R_form hr (by rw [fill_len]; omega)
      subst hA
      obtain ⟨qA, qn, qc⟩ := q
      simp only at h1 ⊢
      rw [h1]
      cases qA with
      | none => simp [slp, Value.ownBlock] at ho
      | some ad =>
        obtain ⟨g', hg'⟩ := Kd.R_head h.cur
        subst hg'
        simp only [slp, Value.ownBlock, Option.some.injEq] at ho
        rw [ho]
    · right
      have := Kd.F_grown h1 hg (fun b hb => hb.2)
      refine Kd.F_mono this (fun b hb => ⟨hb.1, ?_⟩)
      show some b ≠ (Value.slice A _ c).ownBlock
      rw [ho]
      exact hb.2
  · obtain ⟨A, c, rfl⟩ := Kd.R_slice hr
    have hF := h.oldF
    have hf : ∀ b, b < w.heap.size → (fun b => if w.heap.size ≤ b then k else f b) b = f b := fun b hb => by show (if w.heap.size ≤ b then k else f b) = f b; rw [if_neg (by omega)]
    have h2 := h.below hb hf
    refine ⟨fun b => if w.heap.size ≤ b then k else f b, (A, (fill k (m + 1)).length, c), rfl, h.at_, h2.oth, h2.gr, Kd.R_mono (Kd.R_lower hr hbase) (fun b hb => by show (if w.heap.size ≤ b then k else f b) = k; rw [if_pos hb]), .inr ?_, by omega⟩
    refine Kd.F_mono (Kd.F_below (Kd.F_bound hF) hb) (fun b hb => ⟨by show (if w.heap.size ≤ b then k else f b) = k; rw [if_neg (by omega)]; exact hb.1, fun he => ?_⟩)
    have := Kd.R_base hr b he.symm
    omega
/-- Ahead of row k's appends. -/
structure Ph2 (f : Nat → Nat) (ps us : List SP) (O : Option Addr) (G : Value) (base : Nat) (w : World) (k : Nat) : Prop where
  len : us.length = k
  lo : ∀ i p, ps[i]? = some p → k ≤ i → U8.R 5 w base (fun b => f b = i) (slp p) (fill i p.2.1)
  hi : ∀ i p u, ps[i]? = some p → us[i]? = some u → U8.R 5 w base (fun b => f b = i) (slp u) (fill i (p.2.1 + 12)) ∧ Kd.F U8 w (fun b => f b = i) p.1 p.2.1 (fill i p.2.1)
  ol : Kd.F SL w (fun b => f b = ps.length) O ps.length ps
  gr : SL.R 22 w base (fun b => f b = ps.length + 1) G us
theorem Ph2.start {f : Nat → Nat} {ps us : List SP} {O : Option Addr} {G : Value} {base : Nat} {w : World} {k : Nat} {p : SP} (h : Ph2 f ps us O G base w k) (hp : ps[k]? = some p) : Ph2w f ps us O G base w k p p p.2.1 :=
  ⟨hp, ⟨fun i q hq hi => h.lo i q hq (by omega), fun i q u hq hu hi => h.hi i q u hq hu, h.ol⟩, h.gr, h.lo k p hp (Nat.le_refl _), .inl rfl, Nat.le_refl _⟩
theorem Ph2.retag {f f' : Nat → Nat} {ps us : List SP} {O : Option Addr} {G : Value} {base : Nat} {w : World} {k : Nat} (h : Ph2 f ps us O G base w k) (hf : ∀ b, b < w.heap.size → f' b = f b) : Ph2 f' ps us O G base w k :=
  ⟨h.len, fun i p hp hi => R_retag (h.lo i p hp hi) (fun b hb hl => by rw [hf b hl]; exact hb), fun i p u hp hu => ⟨R_retag (h.hi i p u hp hu).1 (fun b hb hl => by rw [hf b hl]; exact hb), F_retag (h.hi i p u hp hu).2 (fun b hb hl => by rw [hf b hl]; exact hb)⟩,
   F_retag h.ol (fun b hb hl => by rw [hf b hl]; exact hb), R_retag h.gr (fun b hb hl => by rw [hf b hl]; exact hb)⟩
theorem Ph2.below {f : Nat → Nat} {ps us : List SP} {O : Option Addr} {G : Value} {base : Nat} {w w1 : World} {k : Nat} (h : Ph2 f ps us O G base w k) (hb : Below w.heap.size w w1) : Ph2 f ps us O G base w1 k :=
  ⟨h.len, fun i p hp hi => Kd.R_below (h.lo i p hp hi) hb, fun i p u hp hu => ⟨Kd.R_below (h.hi i p u hp hu).1 hb, Kd.F_below (h.hi i p u hp hu).2 hb⟩, Kd.F_below h.ol hb, Kd.R_below h.gr hb⟩
/-- The row is full: it is the k-th of the grown ones; G1 is what the append to them left. -/
theorem Ph2w.done {f : Nat → Nat} {ps us : List SP} {O : Option Addr} {G G1 : Value} {base : Nat} {w w1 : World} {k m : Nat} {p q : SP} (h : Ph2w f ps us O G base w k p q m) (hm : m = p.2.1 + 12) (hl : us.length = k) (hg : w.grownBy w1 G.ownBlock)
    (hG : SL.R 22 w1 base (fun b => f b = ps.length + 1) G1 (us ++ [q])) : Ph2 f ps (us ++ [q]) O G1 base w1 (k + 1) := by
  have hk : k < ps.length := lt_of_at h.at_
  have hrow : ∀ b, G.ownBlock = some b → (f b = k ∧ k < ps.length) ∨ ps.length < f b := fun b hb => .inr (by have hx : f b = ps.length + 1 := h.gr.1 b hb; omega)
  have ho := h.oth.grown hg hrow
  refine ⟨by simp [hl], fun i r hr hi => ho.lo i r hr (by omega), fun i r u hr hu => ?_, ho.ol, hG⟩
  by_cases hik : i = k
  · subst hik
    rw [h.at_] at hr
    injection hr with hr
    subst hr
    rw [List.getElem?_append_right (by omega), hl, Nat.sub_self] at hu
    simp only [List.getElem?_cons_zero, Option.some.injEq] at hu
    subst hu
    subst hm
    exact ⟨Kd.R_grown h.cur hg (fun b hb he => by have hx : f b = ps.length + 1 := h.gr.1 b he.symm; omega), Kd.F_grown h.oldF hg (fun b hb he => by have hx : f b = ps.length + 1 := h.gr.1 b he.symm; omega)⟩
  · have hlt : i < us.length := by
      have := lt_of_at hu
      simp at this
      omega
    rw [List.getElem?_append_left hlt] at hu
    exact ho.hi i r u hr hu (by omega)
theorem ph2_of_ph1 {f : Nat → Nat} {ps : List SP} {O : Option Addr} {G : Value} {base : Nat} {w w1 : World} (h : Ph1 f ps base w ps.length 0) (ho : Kd.F SL w (fun b => f b = ps.length) O ps.length ps) (hb : Below w.heap.size w w1) (hG : SL.R 22 w1 w.heap.size (fun _ => True) G []) (hbase : base ≤ w.heap.size) :
    ∃ f', Ph2 f' ps [] O G base w1 0 := by
  obtain ⟨c, hc⟩ := h
  obtain ⟨f', hf'⟩ : ∃ f' : Nat → Nat, f' = fun b => if w.heap.size ≤ b then ps.length + 1 else f b := ⟨_, rfl⟩
  have hf : ∀ b, b < w.heap.size → f' b = f b := fun b hb => by rw [hf']; simp only; rw [if_neg (by omega)]
  refine ⟨f', ⟨rfl, fun i p hp _ => ?_, fun i p u hp hu => by simp at hu, Kd.F_below (F_retag ho (fun b hb hl => by rw [hf b hl]; exact hb)) hb, ?_⟩⟩
  · obtain ⟨h1, h2, h3⟩ := hc i p hp
    have h4 := h2 (lt_of_at hp)
    rw [h4] at h1
    exact Kd.R_below (R_retag h1 (fun b hb hl => by rw [hf b hl]; exact hb)) hb
  · exact Kd.R_mono (Kd.R_lower (Kd.R_bound hG) hbase) (fun b hb => by rw [hf']; simp only; rw [if_pos hb.2.1])
end Go.Proofs.Ytbphmpncajfaiaa.K
/- Apart (function 25) answers true of rows of one's own that lie apart. -/
namespace Go.Proofs.Ytbphmpncajfaiaa.K
open Go.RowKit Go.Proofs.YtbphmpncajfaiaaW.PrintWords Go.Proofs.YtbphmpncajfaiaaW.PrintLast Go.Proofs.YtbphmpncajfaiaaW.PrintMore
set_option linter.unusedVariables false
set_option linter.unusedSimpArgs false
def sd : SP := (none, 0, 0)
theorem at_slp {w : World} {A : Option Addr} {n : Nat} {xs : List SP} (h : SL.C w A n xs) (i : Int) (h0 : 0 ≤ i) (h1 : i < n) : ∃ ad, A = some ad ∧ w.cell? (ad.add i.toNat) = some (slp (rdOf sd xs i)) :=
  ReadsOf.at_ (Kd.reads_of_C (enc := slp) (d := sd) (h1 := slp_one) h) i h0 h1
theorem at_row {w : World} {A : Option Addr} {ps : List SP} (h : SL.C w A ps.length ps) (i : Int) (h0 : 0 ≤ i) (h1 : i < ps.length) : ∃ ad p, A = some ad ∧ ps[i.toNat]? = some p ∧ w.cell? (ad.add i.toNat) = some (.slice p.1 p.2.1 p.2.2) := by
  obtain ⟨ad, hA, hc⟩ := at_slp h i h0 h1
  have hlt : i.toNat < ps.length := by omega
  refine ⟨ad, ps[i.toNat], hA, List.getElem?_eq_getElem hlt, ?_⟩
  rw [hc]
  unfold rdOf
  simp [hlt, slp]
theorem app_below {base : Nat} {w w1 : World} {v v1 : Value} {xs ys : List Int} {ok : Nat → Prop} (hbase : base ≤ w.heap.size) (hv : (v1.ownBlock = v.ownBlock ∧ U8.R 5 w1 base ok v1 xs ∧ w.grownBy w1 v.ownBlock) ∨ (U8.R 5 w1 w.heap.size (fun k => w.heap.size ≤ k) v1 xs ∧ Below w.heap.size w w1))
    (h : U8.R 5 w base ok v ys) : Below base w w1 := by
  rcases hv with ⟨ho, hr, hg⟩ | ⟨hr, hb⟩
  · exact Below.grown (Below.refl _ _) hg hbase (fun k hk => Kd.R_base h k hk)
  · exact Below.mono hb hbase
set_option maxHeartbeats 8000000 in
set_option maxRecDepth 100000 in
theorem apart_calls (f : Nat → Nat) (ps : List SP) (O : Option Addr) (co : Nat) (base : Nat) (w : World) (hbase : base ≤ w.heap.size) (hps : ps.length ≤ 1000) (hpl : ∀ p ∈ ps, p.2.1 ≤ 140737488355000)
    (hO : Kd.F SL w (fun b => f b = ps.length) O ps.length ps) (hR : Ph1 f ps base w 0 0) :
    Calls Try.prog 25 #[.slice O ps.length co] w fun e w' => e = .returned (.bool true) ∧ Below base w w' := by
  have HO := Aside0.mk hO
  have H1 := Aside0.mk hR
  have HB := Aside0.mk (Below.refl base w)
  have HPL := Aside0.mk hpl
  have HBASE := Aside0.mk hbase
  clear hO hR hpl hbase
  go_enter Try.func25, Try.ntmps25
  go_wp2
  go_loopg [15] (ps.length) (fun kq v15 w' => ∃ x : Int, v15 = .int .i64 x ∧ Aside0 (0 ≤ x ∧ x ≤ ps.length ∧ kq + x.toNat = ps.length) ∧ Aside0 (Ph1 f ps base w' x.toNat 0) ∧ Aside0 (Kd.F SL w' (fun b => f b = ps.length) O ps.length ps) ∧ Aside0 (Below base w w'))
  case atStart => exact ⟨0, rfl, ⟨by omega⟩, H1, HO, HB⟩
  case round =>
    clear H1 HO HB
    obtain ⟨x, rfl, HX, H1, HO, HB⟩ := hrel
    obtain ⟨hx0, hx1, hxk⟩ := HX.out
    by_cases hlt : x < (ps.length : Int)
    · obtain ⟨k1, rfl⟩ : ∃ k1, gk = k1 + 1 := ⟨gk - 1, by omega⟩
      have c1 : decide (x < (ps.length : Int)) = true := decide_eq_true hlt
      obtain ⟨ad, p, hO1, hp, hcell⟩ := at_row (Kd.F_now HO.out) x hx0 hlt
      have HP := Aside0.mk hp
      subst hO1
      obtain ⟨A, n, c⟩ := p
      have hn : n ≤ 140737488355000 := HPL.out _ (List.mem_of_getElem? hp)
      clear hp
      have q0 := eq_true hx0
      have q1 := eq_true hlt
      have HXK := Aside0.mk hxk
      clear hxk HX
      go_wp2
      go_loopg [22] n (fun kq v22 w' => ∃ j : Int, v22 = .int .i64 j ∧ Aside0 (0 ≤ j ∧ j ≤ n ∧ kq + j.toNat = n) ∧ Aside0 (Ph1 f ps base w' x.toNat j.toNat) ∧ Aside0 (Kd.F SL w' (fun b => f b = ps.length) (some ad) ps.length ps) ∧ Aside0 (Below base w w'))
      case atStart => exact ⟨0, rfl, ⟨by omega⟩, H1, HO, HB⟩
      case round =>
        clear H1 HO HB hcell
        obtain ⟨j, rfl, HX, H1, HO, HB⟩ := hrel
        obtain ⟨hj0, hj1, hjk⟩ := HX.out
        by_cases hlt2 : j < (n : Int)
        · have c2 : decide (j < (n : Int)) = true := decide_eq_true hlt2
          obtain ⟨g, hA, hbg, hfg, ⟨old, hcl⟩, hfz, hnext⟩ := ph1_store H1.out HP.out (show j.toNat < n by omega)
          simp only at hA
          subst hA
          have HN := Aside0.mk hnext
          have HG := Aside0.mk (And.intro hbg hfg)
          have HX2 := Aside0.mk hjk
          clear hnext hbg hfg hjk HX
          have r0 := eq_true hj0
          have r1 := eq_true hlt2
          go_wp2
          go_roundg (gk - 1)
          case measure => have := HX2.out; omega
          case rel =>
            have e1 : ((x.toNat : Nat) : Int) = x := Int.toNat_of_nonneg hx0
            have e2 : ((j.toNat : Nat) : Int) = j := Int.toNat_of_nonneg hj0
            have h3 := HN.out
            unfold bval at h3
            rw [e1, e2, show j.toNat + 1 = (j + 1).toNat by omega] at h3
            have hg := HG.out
            have hlt3 := lt_of_at HP.out
            refine ⟨j + 1, rfl, ⟨by have := HX2.out; omega⟩, ⟨h3⟩, ⟨Kd.F_far HO.out (fun b hb he => by simp only at he; subst he; omega) _⟩, ⟨HB.out.setCell hg.1 _⟩⟩
        · have c2 : decide (j < (n : Int)) = false := decide_eq_false hlt2
          have HX2 := Aside0.mk hjk
          have H3 := Aside0.mk (ph1_next H1.out HP.out (show n ≤ j.toNat by omega))
          clear hjk HX
          go_wp2
          go_roundg k1
          case measure => omega
          case rel => exact ⟨x + 1, rfl, ⟨by have := HXK.out; omega⟩, ⟨by rw [show (x + 1).toNat = x.toNat + 1 by omega]; exact H3.out⟩, HO, HB⟩
    · have c1 : decide (x < (ps.length : Int)) = false := decide_eq_false hlt
      obtain rfl : x = (ps.length : Int) := by omega
      clear hxk HX
      have HSZ := Aside0.mk (Nat.le_trans HBASE.out HB.out.size)
      go_upto_region 11 with (first | ((with_reducible refine gate_dst (N := 37) rfl ?_); refine Kd.R_lit (w0 := wr) SL wr.heap.size 22 ?hg (N := 37) ?hd (xs := ([] : List SP)) (inner := []) (ok := fun _ => True) (okp := fun _ => True) ?hr ?hp (fun _ hk => hk) trivial (Below.refl _ _) (Nat.le_refl _) (by simp) ?_; (case hd => rfl); (case hg => rfl); (case hr => first | (go_simp; done) | (go_simp; rfl)); (case hp => exact (Reps.none _ _)); intro v_g w_g ho_ hb_ hg_ hnew_; have H2 := Aside0.mk (ph2_of_ph1 H1.out HO.out hb_ ho_ HSZ.out); replace HB := Aside0.mk (HB.out.trans (Below.mono hb_ HSZ.out)); replace HSZ := Aside0.mk (Nat.le_trans HSZ.out hb_.size); clear ho_ hb_ hg_ hnew_))
      clear H1 HO
      go_wp2
      go_loopg [6, 40] (ps.length) (fun kq v6 v40 w' => ∃ (x : Int) (f : Nat → Nat) (us : List SP), v40 = .int .i64 x ∧ Aside0 (0 ≤ x ∧ x ≤ ps.length ∧ kq + x.toNat = ps.length) ∧ Aside0 (Ph2 f ps us O v6 base w' x.toNat) ∧ Aside0 (base ≤ w'.heap.size) ∧ Aside0 (Below base w w'))
      case atStart =>
        obtain ⟨f', h2⟩ := H2.out
        exact ⟨0, f', [], rfl, ⟨by omega⟩, ⟨h2⟩, HSZ, HB⟩
      case round =>
        clear H2 HB HSZ
        obtain ⟨x, f, us, rfl, HX, H2, HSZ, HB⟩ := hrel
        obtain ⟨hx0, hx1, hxk⟩ := HX.out
        by_cases hlt : x < (ps.length : Int)
        · obtain ⟨k1, rfl⟩ : ∃ k1, gk = k1 + 1 := ⟨gk - 1, by omega⟩
          have c1 : decide (x < (ps.length : Int)) = true := decide_eq_true hlt
          obtain ⟨ad, p, hO1, hp, hcell⟩ := at_row (Kd.F_now H2.out.ol) x hx0 hlt
          have H3 := Aside0.mk (H2.out.start hp)
          have HLEN := Aside0.mk H2.out.len
          have HUS := Aside0.mk (show (us.length + 1) * 24 ≤ 140737488355328 by have h5 := H2.out.len; omega)
          subst hO1
          obtain ⟨A, n, c⟩ := p
          have hn : n ≤ 140737488355000 := HPL.out _ (List.mem_of_getElem? hp)
          clear hp
          have q0 := eq_true hx0
          have q1 := eq_true hlt
          have HXK := Aside0.mk hxk
          clear hxk HX
          go_wp2
          go_loopg [8] 12 (fun kq v8 w' => ∃ (f : Nat → Nat) (B : Option Addr) (m cb : Nat), v8 = .slice B m cb ∧ Aside0 (m ≤ n + 12 ∧ kq + m = n + 12) ∧ Aside0 (Ph2w f ps us (some ad) u6 base w' x.toNat (A, n, c) (B, m, cb) m) ∧ Aside0 (base ≤ w'.heap.size) ∧ Aside0 (Below base w w'))
          case atStart => exact ⟨f, A, n, c, rfl, ⟨by omega⟩, H3, HSZ, HB⟩
          case round =>
            clear H2 H3 HB HSZ hcell
            obtain ⟨f, B, m, cb, rfl, HX, H3, HSZ, HB⟩ := hrel
            obtain ⟨hm1, hmk⟩ := HX.out
            by_cases hlt2 : (m : Int) < (n : Int) + 12
            · obtain ⟨k2, rfl⟩ : ∃ k2, gk = k2 + 1 := ⟨gk - 1, by omega⟩
              have c2 : decide ((m : Int) < (n : Int) + 12) = true := decide_eq_true hlt2
              have HX2 := Aside0.mk hmk
              clear hmk HX hm1
              go_wp2_with (first | ((with_reducible refine gate_builtin (b := .append) (xs := #[.tmp 52, .tmp 61]) rfl ?_); at_builtin; refine R_append_keep (w0 := w) base rfl (.tmp 52) (.tmp 61) 22 rfl Try.underlying22 (by kernel_rfl) (.slice B m cb) (fill x.toNat m) ((31 * x + 7 * (m : Int) + 1) % 256) (fun b => f b = x.toNat) rfl rfl ?aO HSZ.out ?aL ?_; (case aO => exact H3.out.cur); (case aL => rw [fill_len]; omega); intro v1 w1 hh; have H4 := Aside0.mk (H3.out.append HSZ.out (show (31 * x + 7 * (m : Int) + 1) % 256 = bval x.toNat m by unfold bval; rw [Int.toNat_of_nonneg hx0]) hh); have H5 := Aside0.mk (app_below HSZ.out hh H3.out.cur); clear hh))
              clear H3
              go_roundg k2
              case measure => omega
              case rel =>
                obtain ⟨f', q1, rfl, hP⟩ := H4.out
                obtain ⟨q1, m1, c1'⟩ := q1
                have hm1 : m1 = m + 1 := by
                  have := ph1_len (f := f') (i := x.toNat) hP.cur
                  rw [fill_len] at this
                  exact this.symm
                subst hm1
                exact ⟨f', q1, m + 1, c1', rfl, ⟨by have := HX2.out; omega⟩, ⟨hP⟩, ⟨Nat.le_trans HSZ.out H5.out.size⟩, ⟨HB.out.trans H5.out⟩⟩
            · have c2 : decide ((m : Int) < (n : Int) + 12) = false := decide_eq_false hlt2
              obtain rfl : m = n + 12 := by omega
              clear hmk HX
              go_wp2_with (first | ((with_reducible refine gate_builtin (b := .append) (xs := #[.tmp 63, .tmp 65]) rfl ?_); at_builtin; refine Kd.R_append SL (w0 := w) base rfl (.tmp 63) (.tmp 65) 37 22 (.slice none 0 0) 24 rfl Try.underlying37 (by kernel_rfl) rfl (by decide) (by omega) u6 us (B, n + 12, cb) [.slice B (n + 12) cb] (fun b => (if wr.heap.size ≤ b then ps.length + 1 else f b) = ps.length + 1) (fun _ => False) rfl rfl ?aP (fun _ hk => hk.elim) ?aF ?aO ?aB ?aS ?aL ?_; (case aP => exact rfl); (case aB => exact HB.out); (case aF => exact (fun k hk => by rw [if_pos hk])); (case aO => exact R_retag H3.out.gr (fun b hb hl => by rw [if_neg (by omega)]; exact hb)); (case aS => exact HSZ.out); (case aL => have := HUS.out; omega); intro v1 w1 ho hb hg hat; have H4 := Aside0.mk (Ph2w.done (H3.out.below (Below.refl _ _) (f' := fun b => if wr.heap.size ≤ b then ps.length + 1 else f b) (fun b hb => by show (if wr.heap.size ≤ b then ps.length + 1 else f b) = f b; rw [if_neg (by omega)])) rfl HLEN.out hg ho); replace HB := Aside0.mk hb; replace HSZ := Aside0.mk (Nat.le_trans HSZ.out hg.size); clear ho hb hg hat))
              go_roundg k1
              case measure => omega
              case rel => exact ⟨x + 1, _, _, rfl, ⟨by have := HXK.out; omega⟩, ⟨by rw [show (x + 1).toNat = x.toNat + 1 by omega]; exact H4.out⟩, HSZ, HB⟩
        · have c1 : decide (x < (ps.length : Int)) = false := decide_eq_false hlt
          obtain rfl : x = (ps.length : Int) := by omega
          clear hxk HX
          have h2 := H2.out
          rw [Int.toNat_natCast] at h2
          clear H2
          have hul := h2.len
          obtain ⟨G, cg, hG⟩ := Kd.R_slice h2.gr
          subst hG
          have H2 := Aside0.mk h2
          have HUL := Aside0.mk hul
          clear h2 hul
          go_wp2
          go_loopg [70] (us.length) (fun kq v70 w' => ∃ (x : Int), v70 = .int .i64 x ∧ Aside0 (0 ≤ x ∧ x ≤ us.length ∧ kq + x.toNat = us.length) ∧ Aside0 (Ph2 f ps us O (.slice G us.length cg) base w' ps.length) ∧ Aside0 (base ≤ w'.heap.size) ∧ Aside0 (Below base w w'))
          case atStart => exact ⟨0, rfl, ⟨by omega⟩, H2, HSZ, HB⟩
          case round =>
            clear H2 HB HSZ
            obtain ⟨x, rfl, HX, H2, HSZ, HB⟩ := hrel
            obtain ⟨hx0, hx1, hxk⟩ := HX.out
            by_cases hlt : x < (us.length : Int)
            · obtain ⟨k1, rfl⟩ : ∃ k1, gk = k1 + 1 := ⟨gk - 1, by omega⟩
              have c1 : decide (x < (us.length : Int)) = true := decide_eq_true hlt
              have hlp : x < (ps.length : Int) := by have := HUL.out; omega
              obtain ⟨ad, p, hO1, hp, hcell⟩ := at_row (Kd.F_now H2.out.ol) x hx0 hlp
              obtain ⟨adg, u, hO2, hu, hcellg⟩ := at_row (Kd.R_reads' H2.out.gr).2.2 x hx0 hlt
              subst hO1
              subst hO2
              have HR := Aside0.mk (H2.out.hi _ _ _ hp hu)
              obtain ⟨A, n, c⟩ := p
              have hn : n ≤ 140737488355000 := HPL.out _ (List.mem_of_getElem? hp)
              obtain ⟨U, m, cu⟩ := u
              have hm := ph1_len (f := f) (i := x.toNat) HR.out.1
              rw [fill_len] at hm
              simp only at hm
              subst hm
              have HP := Aside0.mk hp
              clear hp hu
              have q0 := eq_true hx0
              have q1 := eq_true hlt
              have HXK := Aside0.mk hxk
              clear hxk HX
              obtain ⟨w3, hw3⟩ : ∃ w3, w3 = wr := ⟨wr, rfl⟩
              subst hw3
              go_wp2
              go_loopg [77] (n + 12) (fun kq v77 w' => ∃ (j : Int), v77 = .int .i64 j ∧ Aside0 (0 ≤ j ∧ j ≤ n + 12 ∧ kq + j.toNat = n + 12) ∧ Aside0 (Below w3.heap.size w3 w'))
              case atStart => exact ⟨0, rfl, ⟨by omega⟩, ⟨Below.refl _ _⟩⟩
              case round =>
                obtain ⟨j, rfl, HX, HQ⟩ := hrel
                obtain ⟨hj0, hj1, hjk⟩ := HX.out
                by_cases hlt2 : j < (n : Int) + 12
                · obtain ⟨k2, rfl⟩ : ∃ k2, gk = k2 + 1 := ⟨gk - 1, by omega⟩
                  have c2 : decide (j < (n : Int) + 12) = true := decide_eq_true hlt2
                  have hv : bval ((x.toNat : Nat) : Int) j = (31 * x + 7 * j + 1) % 256 := by rw [Int.toNat_of_nonneg hx0]; rfl
                  obtain ⟨adu, hU, hcu⟩ := Kd.at_int (Kd.R_reads' HR.out.1).2.2 j hj0 (by rw [fill_len]; omega)
                  rw [fill_at _ j hj0 (by omega), hv] at hcu
                  subst hU
                  have hcu' := (HQ.out.cell (World.block_lt_of_cell? _ _ hcu)).trans hcu
                  have hco := (HQ.out.cell (World.block_lt_of_cell? _ _ hcell)).trans hcell
                  clear hcu hcell hv
                  have r0 := eq_true hj0
                  have r1 : (j < ((n + 12 : Nat) : Int)) = True := eq_true (by omega)
                  have r2 : (x < (ps.length : Int)) = True := eq_true hlp
                  have HX2 := Aside0.mk hjk
                  clear hjk HX
                  by_cases hin : j < (n : Int)
                  · have c3 : decide (j < (n : Int)) = true := decide_eq_true hin
                    have r3 := eq_true hin
                    obtain ⟨ada, hA, hca⟩ := Kd.at_int (Kd.F_now HR.out.2) j hj0 hin
                    rw [fill_at _ j hj0 hin, show bval ((x.toNat : Nat) : Int) j = (31 * x + 7 * j + 1) % 256 by rw [Int.toNat_of_nonneg hx0]; rfl] at hca
                    obtain rfl : A = some ada := hA
                    have hca' := (HQ.out.cell (World.block_lt_of_cell? _ _ hca)).trans hca
                    clear hca
                    go_upto_region 25 with fail
                    go_quiet (fail)
                    go_wp2
                    go_roundg k2
                    case measure => omega
                    case rel => exact ⟨j + 1, rfl, ⟨by have := HX2.out; omega⟩, ⟨by repeat (first | exact HQ.out | apply pw_below_drewN | apply below_drew1 | apply below_drew)⟩⟩
                  · have c3 : decide (j < (n : Int)) = false := decide_eq_false hin
                    go_upto_region 25 with fail
                    go_quiet (fail)
                    go_wp2
                    go_roundg k2
                    case measure => omega
                    case rel => exact ⟨j + 1, rfl, ⟨by have := HX2.out; omega⟩, ⟨by repeat (first | exact HQ.out | apply pw_below_drewN | apply below_drew1 | apply below_drew)⟩⟩
                · have c2 : decide (j < (n : Int) + 12) = false := decide_eq_false hlt2
                  clear hjk HX
                  go_wp2
                  go_roundg k1
                  case measure => omega
                  case rel => exact ⟨x + 1, rfl, ⟨by have := HXK.out; omega⟩, ⟨H2.out.below HQ.out⟩, ⟨Nat.le_trans HSZ.out HQ.out.size⟩, ⟨HB.out.trans (Below.mono HQ.out HSZ.out)⟩⟩
            · have c1 : decide (x < (us.length : Int)) = false := decide_eq_false hlt
              go_wp2
              go_ret
              exact ⟨rfl, HB.out⟩
end Go.Proofs.Ytbphmpncajfaiaa.K
/- palimpsestnum.Apart (function 25) keeps a page that is none of the rows. -/
namespace Go.Proofs.Ytbphmpncajfaiaa.K
open Go.RowKit Go.Proofs.YtbphmpncajfaiaaW.PrintWords Go.Proofs.YtbphmpncajfaiaaW.PrintLast Go.Proofs.YtbphmpncajfaiaaW.PrintMore
set_option linter.unusedVariables false
set_option linter.unusedSimpArgs false
theorem page_off {f : Nat → Nat} {ps : List SP} {base : Nat} {w : World} {k j g gq n c : Nat} {l : List Int} (hq : Page w gq l) (h : Ph1 f ps base w k j) (hp : ps[k]? = some (some ⟨g, 0, none⟩, n, c)) : gq ≠ g := by
  obtain ⟨c, hc⟩ := h
  have hr := (hc k _ hp).1
  have := Kd.R_ne hr hq.1 (by decide)
  rintro rfl
  exact this rfl
theorem page_app {base gq : Nat} {w w1 : World} {l : List Int} {v v1 : Value} {xs ys : List Int} {ok : Nat → Prop} (hq : Page w gq l) (hv : (v1.ownBlock = v.ownBlock ∧ U8.R 5 w1 base ok v1 xs ∧ w.grownBy w1 v.ownBlock) ∨ (U8.R 5 w1 w.heap.size (fun k => w.heap.size ≤ k) v1 xs ∧ Below w.heap.size w w1))
    (h : U8.R 5 w base ok v ys) : Page w1 gq l := by
  rcases hv with ⟨ho, hr, hg⟩ | ⟨hr, hb⟩
  · exact hq.grown hg (Kd.R_ne h hq.1 (by decide))
  · exact hq.below hb
set_option maxHeartbeats 8000000 in
set_option maxRecDepth 100000 in
theorem apart_keep (gq : Nat) (l : List Int) (f : Nat → Nat) (ps : List SP) (O : Option Addr) (co : Nat) (base : Nat) (w : World) (hbase : base ≤ w.heap.size) (hps : ps.length ≤ 1000) (hpl : ∀ p ∈ ps, p.2.1 ≤ 140737488355000)
    (hO : Kd.F SL w (fun b => f b = ps.length) O ps.length ps) (hR : Ph1 f ps base w 0 0) (hPQ : Page w gq l) :
    Calls Try.prog 25 #[.slice O ps.length co] w fun e w' => e = .returned (.bool true) ∧ Below base w w' ∧ Page w' gq l := by
  have PQ := Aside0.mk hPQ
  clear hPQ
  have HO := Aside0.mk hO
  have H1 := Aside0.mk hR
  have HB := Aside0.mk (Below.refl base w)
  have HPL := Aside0.mk hpl
  have HBASE := Aside0.mk hbase
  clear hO hR hpl hbase
  go_enter Try.func25, Try.ntmps25
  go_wp2
  go_loopg [15] (ps.length) (fun kq v15 w' => ∃ x : Int, v15 = .int .i64 x ∧ Aside0 (0 ≤ x ∧ x ≤ ps.length ∧ kq + x.toNat = ps.length) ∧ Aside0 (Ph1 f ps base w' x.toNat 0) ∧ Aside0 (Kd.F SL w' (fun b => f b = ps.length) O ps.length ps) ∧ Aside0 (Page w' gq l) ∧ Aside0 (Below base w w'))
  case atStart => exact ⟨0, rfl, ⟨by omega⟩, H1, HO, PQ, HB⟩
  case round =>
    clear PQ H1 HO HB
    obtain ⟨x, rfl, HX, H1, HO, PQ, HB⟩ := hrel
    obtain ⟨hx0, hx1, hxk⟩ := HX.out
    by_cases hlt : x < (ps.length : Int)
    · obtain ⟨k1, rfl⟩ : ∃ k1, gk = k1 + 1 := ⟨gk - 1, by omega⟩
      have c1 : decide (x < (ps.length : Int)) = true := decide_eq_true hlt
      obtain ⟨ad, p, hO1, hp, hcell⟩ := at_row (Kd.F_now HO.out) x hx0 hlt
      have HP := Aside0.mk hp
      subst hO1
      obtain ⟨A, n, c⟩ := p
      have hn : n ≤ 140737488355000 := HPL.out _ (List.mem_of_getElem? hp)
      clear hp
      have q0 := eq_true hx0
      have q1 := eq_true hlt
      have HXK := Aside0.mk hxk
      clear hxk HX
      go_wp2
      go_loopg [22] n (fun kq v22 w' => ∃ j : Int, v22 = .int .i64 j ∧ Aside0 (0 ≤ j ∧ j ≤ n ∧ kq + j.toNat = n) ∧ Aside0 (Ph1 f ps base w' x.toNat j.toNat) ∧ Aside0 (Kd.F SL w' (fun b => f b = ps.length) (some ad) ps.length ps) ∧ Aside0 (Page w' gq l) ∧ Aside0 (Below base w w'))
      case atStart => exact ⟨0, rfl, ⟨by omega⟩, H1, HO, PQ, HB⟩
      case round =>
        clear PQ H1 HO HB hcell
        obtain ⟨j, rfl, HX, H1, HO, PQ, HB⟩ := hrel
        obtain ⟨hj0, hj1, hjk⟩ := HX.out
        by_cases hlt2 : j < (n : Int)
        · have c2 : decide (j < (n : Int)) = true := decide_eq_true hlt2
          obtain ⟨g, hA, hbg, hfg, ⟨old, hcl⟩, hfz, hnext⟩ := ph1_store H1.out HP.out (show j.toNat < n by omega)
          simp only at hA
          subst hA
          have PG := Aside0.mk (page_off PQ.out H1.out HP.out)
          have HN := Aside0.mk hnext
          have HG := Aside0.mk (And.intro hbg hfg)
          have HX2 := Aside0.mk hjk
          clear hnext hbg hfg hjk HX
          have r0 := eq_true hj0
          have r1 := eq_true hlt2
          go_wp2
          go_roundg (gk - 1)
          case measure => have := HX2.out; omega
          case rel =>
            have e1 : ((x.toNat : Nat) : Int) = x := Int.toNat_of_nonneg hx0
            have e2 : ((j.toNat : Nat) : Int) = j := Int.toNat_of_nonneg hj0
            have h3 := HN.out
            unfold bval at h3
            rw [e1, e2, show j.toNat + 1 = (j + 1).toNat by omega] at h3
            have hg := HG.out
            have hlt3 := lt_of_at HP.out
            refine ⟨j + 1, rfl, ⟨by have := HX2.out; omega⟩, ⟨h3⟩, ⟨Kd.F_far HO.out (fun b hb he => by simp only at he; subst he; omega) _⟩, ⟨PQ.out.far PG.out _ _⟩, ⟨HB.out.setCell hg.1 _⟩⟩
        · have c2 : decide (j < (n : Int)) = false := decide_eq_false hlt2
          have HX2 := Aside0.mk hjk
          have H3 := Aside0.mk (ph1_next H1.out HP.out (show n ≤ j.toNat by omega))
          clear hjk HX
          go_wp2
          go_roundg k1
          case measure => omega
          case rel => exact ⟨x + 1, rfl, ⟨by have := HXK.out; omega⟩, ⟨by rw [show (x + 1).toNat = x.toNat + 1 by omega]; exact H3.out⟩, HO, PQ, HB⟩
    · have c1 : decide (x < (ps.length : Int)) = false := decide_eq_false hlt
      obtain rfl : x = (ps.length : Int) := by omega
      clear hxk HX
      have HSZ := Aside0.mk (Nat.le_trans HBASE.out HB.out.size)
      go_upto_region 11 with (first | ((with_reducible refine gate_dst (N := 37) rfl ?_); refine Kd.R_lit (w0 := wr) SL wr.heap.size 22 ?hg (N := 37) ?hd (xs := ([] : List SP)) (inner := []) (ok := fun _ => True) (okp := fun _ => True) ?hr ?hp (fun _ hk => hk) trivial (Below.refl _ _) (Nat.le_refl _) (by simp) ?_; (case hd => rfl); (case hg => rfl); (case hr => first | (go_simp; done) | (go_simp; rfl)); (case hp => exact (Reps.none _ _)); intro v_g w_g ho_ hb_ hg_ hnew_; have H2 := Aside0.mk (ph2_of_ph1 H1.out HO.out hb_ ho_ HSZ.out); replace PQ := Aside0.mk (PQ.out.below hb_); replace HB := Aside0.mk (HB.out.trans (Below.mono hb_ HSZ.out)); replace HSZ := Aside0.mk (Nat.le_trans HSZ.out hb_.size); clear ho_ hb_ hg_ hnew_))
      clear H1 HO
      go_wp2
      go_loopg [6, 40] (ps.length) (fun kq v6 v40 w' => ∃ (x : Int) (f : Nat → Nat) (us : List SP), v40 = .int .i64 x ∧ Aside0 (0 ≤ x ∧ x ≤ ps.length ∧ kq + x.toNat = ps.length) ∧ Aside0 (Ph2 f ps us O v6 base w' x.toNat) ∧ Aside0 (base ≤ w'.heap.size) ∧ Aside0 (Page w' gq l) ∧ Aside0 (Below base w w'))
      case atStart =>
        obtain ⟨f', h2⟩ := H2.out
        exact ⟨0, f', [], rfl, ⟨by omega⟩, ⟨h2⟩, HSZ, PQ, HB⟩
      case round =>
        clear PQ H2 HB HSZ
        obtain ⟨x, f, us, rfl, HX, H2, HSZ, PQ, HB⟩ := hrel
        obtain ⟨hx0, hx1, hxk⟩ := HX.out
        by_cases hlt : x < (ps.length : Int)
        · obtain ⟨k1, rfl⟩ : ∃ k1, gk = k1 + 1 := ⟨gk - 1, by omega⟩
          have c1 : decide (x < (ps.length : Int)) = true := decide_eq_true hlt
          obtain ⟨ad, p, hO1, hp, hcell⟩ := at_row (Kd.F_now H2.out.ol) x hx0 hlt
          have H3 := Aside0.mk (H2.out.start hp)
          have HLEN := Aside0.mk H2.out.len
          have HUS := Aside0.mk (show (us.length + 1) * 24 ≤ 140737488355328 by have h5 := H2.out.len; omega)
          subst hO1
          obtain ⟨A, n, c⟩ := p
          have hn : n ≤ 140737488355000 := HPL.out _ (List.mem_of_getElem? hp)
          clear hp
          have q0 := eq_true hx0
          have q1 := eq_true hlt
          have HXK := Aside0.mk hxk
          clear hxk HX
          go_wp2
          go_loopg [8] 12 (fun kq v8 w' => ∃ (f : Nat → Nat) (B : Option Addr) (m cb : Nat), v8 = .slice B m cb ∧ Aside0 (m ≤ n + 12 ∧ kq + m = n + 12) ∧ Aside0 (Ph2w f ps us (some ad) u6 base w' x.toNat (A, n, c) (B, m, cb) m) ∧ Aside0 (base ≤ w'.heap.size) ∧ Aside0 (Page w' gq l) ∧ Aside0 (Below base w w'))
          case atStart => exact ⟨f, A, n, c, rfl, ⟨by omega⟩, H3, HSZ, PQ, HB⟩
          case round =>
            clear PQ H2 H3 HB HSZ hcell
            obtain ⟨f, B, m, cb, rfl, HX, H3, HSZ, PQ, HB⟩ := hrel
            obtain ⟨hm1, hmk⟩ := HX.out
            by_cases hlt2 : (m : Int) < (n : Int) + 12
            · obtain ⟨k2, rfl⟩ : ∃ k2, gk = k2 + 1 := ⟨gk - 1, by omega⟩
              have c2 : decide ((m : Int) < (n : Int) + 12) = true := decide_eq_true hlt2
              have HX2 := Aside0.mk hmk
              clear hmk HX hm1
              go_wp2_with (first | ((with_reducible refine gate_builtin (b := .append) (xs := #[.tmp 52, .tmp 61]) rfl ?_); at_builtin; refine R_append_keep (w0 := w) base rfl (.tmp 52) (.tmp 61) 22 rfl Try.underlying22 (by kernel_rfl) (.slice B m cb) (fill x.toNat m) ((31 * x + 7 * (m : Int) + 1) % 256) (fun b => f b = x.toNat) rfl rfl ?aO HSZ.out ?aL ?_; (case aO => exact H3.out.cur); (case aL => rw [fill_len]; omega); intro v1 w1 hh; have H4 := Aside0.mk (H3.out.append HSZ.out (show (31 * x + 7 * (m : Int) + 1) % 256 = bval x.toNat m by unfold bval; rw [Int.toNat_of_nonneg hx0]) hh); have H5 := Aside0.mk (app_below HSZ.out hh H3.out.cur); replace PQ := Aside0.mk (page_app PQ.out hh H3.out.cur); clear hh))
              clear H3
              go_roundg k2
              case measure => omega
              case rel =>
                obtain ⟨f', q1, rfl, hP⟩ := H4.out
                obtain ⟨q1, m1, c1'⟩ := q1
                have hm1 : m1 = m + 1 := by
                  have := ph1_len (f := f') (i := x.toNat) hP.cur
                  rw [fill_len] at this
                  exact this.symm
                subst hm1
                exact ⟨f', q1, m + 1, c1', rfl, ⟨by have := HX2.out; omega⟩, ⟨hP⟩, ⟨Nat.le_trans HSZ.out H5.out.size⟩, PQ, ⟨HB.out.trans H5.out⟩⟩
            · have c2 : decide ((m : Int) < (n : Int) + 12) = false := decide_eq_false hlt2
              obtain rfl : m = n + 12 := by omega
              clear hmk HX
              go_wp2_with (first | ((with_reducible refine gate_builtin (b := .append) (xs := #[.tmp 63, .tmp 65]) rfl ?_); at_builtin; refine Kd.R_append SL (w0 := w) base rfl (.tmp 63) (.tmp 65) 37 22 (.slice none 0 0) 24 rfl Try.underlying37 (by kernel_rfl) rfl (by decide) (by omega) u6 us (B, n + 12, cb) [.slice B (n + 12) cb] (fun b => (if wr.heap.size ≤ b then ps.length + 1 else f b) = ps.length + 1) (fun _ => False) rfl rfl ?aP (fun _ hk => hk.elim) ?aF ?aO ?aB ?aS ?aL ?_; (case aP => exact rfl); (case aB => exact HB.out); (case aF => exact (fun k hk => by rw [if_pos hk])); (case aO => exact R_retag H3.out.gr (fun b hb hl => by rw [if_neg (by omega)]; exact hb)); (case aS => exact HSZ.out); (case aL => have := HUS.out; omega); intro v1 w1 ho hb hg hat; have H4 := Aside0.mk (Ph2w.done (H3.out.below (Below.refl _ _) (f' := fun b => if wr.heap.size ≤ b then ps.length + 1 else f b) (fun b hb => by show (if wr.heap.size ≤ b then ps.length + 1 else f b) = f b; rw [if_neg (by omega)])) rfl HLEN.out hg ho); replace PQ := Aside0.mk (PQ.out.grown hg (Kd.R_ne H3.out.gr PQ.out.1 (by decide))); replace HB := Aside0.mk hb; replace HSZ := Aside0.mk (Nat.le_trans HSZ.out hg.size); clear ho hb hg hat))
              go_roundg k1
              case measure => omega
              case rel => exact ⟨x + 1, _, _, rfl, ⟨by have := HXK.out; omega⟩, ⟨by rw [show (x + 1).toNat = x.toNat + 1 by omega]; exact H4.out⟩, HSZ, PQ, HB⟩
        · have c1 : decide (x < (ps.length : Int)) = false := decide_eq_false hlt
          obtain rfl : x = (ps.length : Int) := by omega
          clear hxk HX
          have h2 := H2.out
          rw [Int.toNat_natCast] at h2
          clear H2
          have hul := h2.len
          obtain ⟨G, cg, hG⟩ := Kd.R_slice h2.gr
          subst hG
          have H2 := Aside0.mk h2
          have HUL := Aside0.mk hul
          clear h2 hul
          go_wp2
          go_loopg [70] (us.length) (fun kq v70 w' => ∃ (x : Int), v70 = .int .i64 x ∧ Aside0 (0 ≤ x ∧ x ≤ us.length ∧ kq + x.toNat = us.length) ∧ Aside0 (Ph2 f ps us O (.slice G us.length cg) base w' ps.length) ∧ Aside0 (base ≤ w'.heap.size) ∧ Aside0 (Page w' gq l) ∧ Aside0 (Below base w w'))
          case atStart => exact ⟨0, rfl, ⟨by omega⟩, H2, HSZ, PQ, HB⟩
          case round =>
            clear PQ H2 HB HSZ
            obtain ⟨x, rfl, HX, H2, HSZ, PQ, HB⟩ := hrel
            obtain ⟨hx0, hx1, hxk⟩ := HX.out
            by_cases hlt : x < (us.length : Int)
            · obtain ⟨k1, rfl⟩ : ∃ k1, gk = k1 + 1 := ⟨gk - 1, by omega⟩
              have c1 : decide (x < (us.length : Int)) = true := decide_eq_true hlt
              have hlp : x < (ps.length : Int) := by have := HUL.out; omega
              obtain ⟨ad, p, hO1, hp, hcell⟩ := at_row (Kd.F_now H2.out.ol) x hx0 hlp
              obtain ⟨adg, u, hO2, hu, hcellg⟩ := at_row (Kd.R_reads' H2.out.gr).2.2 x hx0 hlt
              subst hO1
              subst hO2
              have HR := Aside0.mk (H2.out.hi _ _ _ hp hu)
              obtain ⟨A, n, c⟩ := p
              have hn : n ≤ 140737488355000 := HPL.out _ (List.mem_of_getElem? hp)
              obtain ⟨U, m, cu⟩ := u
              have hm := ph1_len (f := f) (i := x.toNat) HR.out.1
              rw [fill_len] at hm
              simp only at hm
              subst hm
              have HP := Aside0.mk hp
              clear hp hu
              have q0 := eq_true hx0
              have q1 := eq_true hlt
              have HXK := Aside0.mk hxk
              clear hxk HX
              obtain ⟨w3, hw3⟩ : ∃ w3, w3 = wr := ⟨wr, rfl⟩
              subst hw3
              go_wp2
              go_loopg [77] (n + 12) (fun kq v77 w' => ∃ (j : Int), v77 = .int .i64 j ∧ Aside0 (0 ≤ j ∧ j ≤ n + 12 ∧ kq + j.toNat = n + 12) ∧ Aside0 (Below w3.heap.size w3 w'))
              case atStart => exact ⟨0, rfl, ⟨by omega⟩, ⟨Below.refl _ _⟩⟩
              case round =>
                obtain ⟨j, rfl, HX, HQ⟩ := hrel
                obtain ⟨hj0, hj1, hjk⟩ := HX.out
                by_cases hlt2 : j < (n : Int) + 12
                · obtain ⟨k2, rfl⟩ : ∃ k2, gk = k2 + 1 := ⟨gk - 1, by omega⟩
                  have c2 : decide (j < (n : Int) + 12) = true := decide_eq_true hlt2
                  have hv : bval ((x.toNat : Nat) : Int) j = (31 * x + 7 * j + 1) % 256 := by rw [Int.toNat_of_nonneg hx0]; rfl
                  obtain ⟨adu, hU, hcu⟩ := Kd.at_int (Kd.R_reads' HR.out.1).2.2 j hj0 (by rw [fill_len]; omega)
                  rw [fill_at _ j hj0 (by omega), hv] at hcu
                  subst hU
                  have hcu' := (HQ.out.cell (World.block_lt_of_cell? _ _ hcu)).trans hcu
                  have hco := (HQ.out.cell (World.block_lt_of_cell? _ _ hcell)).trans hcell
                  clear hcu hcell hv
                  have r0 := eq_true hj0
                  have r1 : (j < ((n + 12 : Nat) : Int)) = True := eq_true (by omega)
                  have r2 : (x < (ps.length : Int)) = True := eq_true hlp
                  have HX2 := Aside0.mk hjk
                  clear hjk HX
                  by_cases hin : j < (n : Int)
                  · have c3 : decide (j < (n : Int)) = true := decide_eq_true hin
                    have r3 := eq_true hin
                    obtain ⟨ada, hA, hca⟩ := Kd.at_int (Kd.F_now HR.out.2) j hj0 hin
                    rw [fill_at _ j hj0 hin, show bval ((x.toNat : Nat) : Int) j = (31 * x + 7 * j + 1) % 256 by rw [Int.toNat_of_nonneg hx0]; rfl] at hca
                    obtain rfl : A = some ada := hA
                    have hca' := (HQ.out.cell (World.block_lt_of_cell? _ _ hca)).trans hca
                    clear hca
                    go_upto_region 25 with fail
                    go_quiet (fail)
                    go_wp2
                    go_roundg k2
                    case measure => omega
                    case rel => exact ⟨j + 1, rfl, ⟨by have := HX2.out; omega⟩, ⟨by repeat (first | exact HQ.out | apply pw_below_drewN | apply below_drew1 | apply below_drew)⟩⟩
                  · have c3 : decide (j < (n : Int)) = false := decide_eq_false hin
                    go_upto_region 25 with fail
                    go_quiet (fail)
                    go_wp2
                    go_roundg k2
                    case measure => omega
                    case rel => exact ⟨j + 1, rfl, ⟨by have := HX2.out; omega⟩, ⟨by repeat (first | exact HQ.out | apply pw_below_drewN | apply below_drew1 | apply below_drew)⟩⟩
                · have c2 : decide (j < (n : Int) + 12) = false := decide_eq_false hlt2
                  clear hjk HX
                  go_wp2
                  go_roundg k1
                  case measure => omega
                  case rel => exact ⟨x + 1, rfl, ⟨by have := HXK.out; omega⟩, ⟨H2.out.below HQ.out⟩, ⟨Nat.le_trans HSZ.out HQ.out.size⟩, ⟨PQ.out.below HQ.out⟩, ⟨HB.out.trans (Below.mono HQ.out HSZ.out)⟩⟩
            · have c1 : decide (x < (us.length : Int)) = false := decide_eq_false hlt
              go_wp2
              go_ret
              exact ⟨rfl, HB.out, PQ.out⟩
end Go.Proofs.Ytbphmpncajfaiaa.K
/- PageBack (function 10). -/
namespace Go.Proofs.Ytbphmpncajfaiaa.K
open Go.RowKit Go.Proofs.Ytbphmpncajfaiaa.M Go.Proofs.Ytbphmpncajfaiaa.Py Go.Proofs.YtbphmpncajfaiaaW.PrintWords Go.Proofs.YtbphmpncajfaiaaW.PrintLast Go.Proofs.YtbphmpncajfaiaaW.PrintMore
set_option linter.unusedVariables false
set_option linter.unusedSimpArgs false
theorem ph1_two {base : Nat} {w : World} {p0 p1 : SP} {x0 x1 : List Int} {s1 s2 : Nat} (O : Option Addr) {ps : List SP} (hps : ps = [p0, p1]) (h0 : U8.R 5 w base (fun k => k < s1) (slp p0) x0) (h1 : U8.R 5 w base (fun k => s1 ≤ k ∧ k < s2) (slp p1) x1)
    (hO : Kd.F SL w (fun k => s2 ≤ k) O ps.length ps) (h12 : s1 ≤ s2) :
    ∃ f, Ph1 f ps base w 0 0 ∧ Kd.F SL w (fun b => f b = ps.length) O ps.length ps := by
  subst hps
  obtain ⟨f, hf⟩ : ∃ f : Nat → Nat, f = fun k => if k < s1 then 0 else if k < s2 then 1 else 2 := ⟨_, rfl⟩
  refine ⟨f, ⟨fun i => [x0, x1].getD i [], fun i p hp => ?_⟩, Kd.F_mono hO (fun k hk => ?_)⟩
  · refine ⟨?_, fun h => by omega, fun h => by simp [fill]⟩
    match i, hp with
    | 0, hp =>
      simp only [List.getElem?_cons_zero, Option.some.injEq] at hp
      subst hp
      exact Kd.R_mono h0 (fun k hk => by simp only [hf]; rw [if_pos (by omega)])
    | 1, hp =>
      simp only [List.getElem?_cons_zero, List.getElem?_cons_succ, Option.some.injEq] at hp
      subst hp
      exact Kd.R_mono h1 (fun k hk => by simp only [hf]; rw [if_neg (by omega), if_pos (by omega)])
    | i + 2, hp => simp at hp
  · simp only [hf, List.length_cons, List.length_nil]
    rw [if_neg (by omega), if_neg (by omega)]
set_option maxHeartbeats 16000000 in
set_option maxRecDepth 100000 in
theorem back5_few (lsn : Int) (A Ab : Option Addr) (c cb : Nat) (ln lb : List Int) (ws : World) (hA : Kd.C (Kd.int .i64) ws A ln.length ln) (hB : Kd.C (Kd.int .u8) ws Ab lb.length lb) (hca : ln.length ≤ c) (hcb : lb.length ≤ cb)
    (sa : ln.length ≤ 4611686018427387904) (hn : I64 lsn) (hI : ∀ x ∈ ln, I64 x) (hbl : Bytes lb) (hx : ¬ 16384 < lb.length) :
    Calls Try.prog 10 #[.int .i64 lsn, .slice A ln.length c, .slice Ab lb.length cb] ws fun e w' => e = .returned (.bool true) ∧ Below ws.heap.size ws w' := by
  have CC := Aside0.mk hA
  have CBB := Aside0.mk hB
  have LC := Aside0.mk hca
  have LBB := Aside0.mk hcb
  have SC := Aside0.mk sa
  have BLB := Aside0.mk hbl
  have heq := eql49
  have HB := Aside0.mk (Below.refl ws.heap.size ws)
  have c1 : decide ((lb.length : Int) > 16384) = false := decide_eq_false (by omega)
  obtain ⟨pf, hpf⟩ : ∃ p, p = full lsn ln := ⟨_, rfl⟩
  obtain ⟨bx, hbx⟩ : ∃ b, b = encodeOf (pf.headD 0) pf.tail := ⟨_, rfl⟩
  obtain ⟨pr, er, hde⟩ : ∃ p e, decodeOf lb = (p, e) := ⟨_, _, rfl⟩
  have NF := Aside0.mk hpf
  have NB := Aside0.mk hbx
  have DD := Aside0.mk hde
  have LF := Aside0.mk (show pf.length = 61 by rw [hpf]; simp [full])
  have IP := Aside0.mk (show ∀ x ∈ pf, I64 x by rw [hpf]; exact full_i64 hn hI)
  have e0 : pf.headD 0 = lsn := by rw [hpf]; rfl
  have e1 : pf.tail.length = 60 := by rw [List.length_tail, LF.out]
  have hsp : pf = lsn :: pf.tail := by rw [hpf]; rfl
  have LB := Aside0.mk (show bx.length = 512 by rw [hbx, e0]; exact encode_len hn e1)
  have BB := Aside0.mk (show Bytes bx by rw [hbx]; exact encode_bytes _ _)
  have D1 := Aside0.mk (show decodeOf bx = (pf, none) by
    rw [hbx, e0, decode_encode hn e1 (fun x hx => IP.out x (by rw [hsp]; exact List.mem_cons_of_mem _ hx)), ← hsp])
  have LPR := Aside0.mk (show pr.length = 61 by have := decode_page lb; rw [hde] at this; exact this)
  have c2 : ((bx.length : Int) != 512) = false := by rw [LB.out]; rfl
  have CASE := Aside0.mk (show er = some 4 ∨ (er = none ∧ pr = none61 ∧ lb = List.replicate 512 0) ∨ (er = none ∧ (∀ x ∈ pr, I64 x) ∧ encodeOf (pr.headD 0) pr.tail = lb) by
    by_cases h : er = none
    · right
      subst h
      have h2 := decode_ok hbl (by rw [hde])
      rw [hde] at h2
      rcases h2 with ⟨h3, h4⟩ | ⟨n, l, hn2, hl2, hi2, h3, h4⟩
      · exact .inl ⟨rfl, h3, h4⟩
      · right
        dsimp only at h3
        subst h3
        refine ⟨rfl, fun x hx => ?_, h4⟩
        rcases List.mem_cons.1 hx with h | h
        · rw [h]; exact hn2
        · exact hi2 x h
    · left
      have h2 := decode_err (b := lb) (by rw [hde]; exact h)
      rw [hde] at h2
      injection h2)
  clear hA hB hca hcb sa hn hI hbl hx hpf hbx hde e0 e1 hsp
  go_enter Try.func10, Try.ntmps10
  go_upto_region 6 with (first | ((with_reducible refine gate_callee (f := 35) rfl ?_); (with_reducible refine gate_dst (N := 12) rfl ?_); (try (refine gate_guard (by rfl) ?_; dsimp only)); refine goesL_ (some 12) rfl rfl Try.func35 (by kernel_rfl) rfl #[] rfl (by (try simp only [List.map_toArray, List.map_cons, List.map_nil]); first | done | rfl) ?_; (refine (alive5_calls _).mono ?_); rintro e w_al ⟨rfl, hb_⟩; refine ⟨_, rfl, ?_⟩; have HB0_ := HB; replace HB := Aside0.mk (below_step HB.out hb_); clear hb_; clear HB0_) | ((with_reducible refine gate_callee (f := 36) rfl ?_); (with_reducible refine gate_dst (N := 19) rfl ?_); (try (refine gate_guard (by rfl) ?_; dsimp only)); refine goesL_ (some 19) rfl rfl Try.func36 (by kernel_rfl) rfl #[.int .i64 (lsn), .slice A ln.length c] rfl (by (try simp only [List.map_toArray, List.map_cons, List.map_nil]); first | done | rfl) ?_; (refine (filled_calls (lsn) A c ln _ ?side1 ?side2 ?side3).mono ?_); (case side1 => exact Kd.C_below CC.out HB.out); (case side2 => exact LC.out); (case side3 => exact SC.out); rintro e w_f ⟨rfl, hb_⟩; refine ⟨_, rfl, ?_⟩; have HB0_ := HB; replace HB := Aside0.mk (below_step HB.out hb_); rw [← NF.out]; clear hb_; clear HB0_) | ((with_reducible refine gate_dst (N := 7) rfl ?_); (try (refine gate_guard (by rfl) ?_; dsimp only)); refine page_alloc rfl rfl ?_; intro g_p w_p hg_ hp_ hb_; have G_p := Aside0.mk (show ws.heap.size ≤ g_p by rw [hg_]; exact below_size HB.out); have P_p := Aside0.mk hp_; replace HB := Aside0.mk (below_step HB.out hb_); clear hg_ hp_ hb_) | ((with_reducible refine gate_op (.store 65 (.tmp 7) (.tmp 19)) rfl ?_); (try (refine gate_guard (by rfl) ?_; dsimp only)); refine page_store rfl rfl (.tmp 7) (.tmp 19) rfl g_p _ pf rfl rfl P_p.out (LF.out) ?_; intro w_s1 hp_ hg_; replace P_p := Aside0.mk hp_; replace HB := Aside0.mk (page_below HB.out hg_ G_p.out); clear hp_ hg_))
  have HINJ : ∀ i j : Nat, i < 6 → j < 6 → (if i = 4 then 8 else if i = 5 then 9 else 20 + i) = (if j = 4 then 8 else if j = 5 then 9 else 20 + j) → i = j := by
    intro i j hi hj h
    (repeat' split at h) <;> omega
  refine region_see (n := 6) (by kernel_rfl) rfl (fun i => if i = 4 then 8 else if i = 5 then 9 else 20 + i) ?hN HINJ ?hsz ?hdag (fun i => match i with | 3 => [1, 3] | 4 => [1, 4] | 5 => [3, 5] | i => [i]) ?hmen
    (fun i T w => match i with
      | 0 => T[20]? = some (.agg (pg pf))
      | 1 => ∃ u, T[21]? = some u ∧ Kd.R (Kd.int .u8) 5 w ws.heap.size (fun _ => True) u bx
      | 2 => T[22]? = some (.agg (pg pf))
      | 3 => ∃ u v, T[21]? = some u ∧ T[23]? = some v ∧ Kd.R (Kd.int .u8) 5 w ws.heap.size (fun _ => True) u bx ∧ Kd.R (Kd.int .u8) 5 w ws.heap.size (fun _ => True) v bx ∧ ∀ j k, u.ownBlock = some j → v.ownBlock = some k → j < k
      | 4 => T[8]? = T[21]?
      | 5 => T[9]? = T[23]?
      | _ => True) ?hS ?step ?hend
  case hN =>
    intro i o ho
    have hi : i < 6 := (Array.getElem?_eq_some_iff.1 ho).1
    match i, hi, ho with
    | 0, _, ho => simp only [List.getElem?_toArray, List.getElem?_cons_zero, List.getElem?_cons_succ, Option.some.injEq] at ho; subst ho; rfl
    | 1, _, ho => simp only [List.getElem?_toArray, List.getElem?_cons_zero, List.getElem?_cons_succ, Option.some.injEq] at ho; subst ho; rfl
    | 2, _, ho => simp only [List.getElem?_toArray, List.getElem?_cons_zero, List.getElem?_cons_succ, Option.some.injEq] at ho; subst ho; rfl
    | 3, _, ho => simp only [List.getElem?_toArray, List.getElem?_cons_zero, List.getElem?_cons_succ, Option.some.injEq] at ho; subst ho; rfl
    | 4, _, ho => simp only [List.getElem?_toArray, List.getElem?_cons_zero, List.getElem?_cons_succ, Option.some.injEq] at ho; subst ho; rfl
    | 5, _, ho => simp only [List.getElem?_toArray, List.getElem?_cons_zero, List.getElem?_cons_succ, Option.some.injEq] at ho; subst ho; rfl
  case hsz =>
    intro i hi
    show (if i = 4 then 8 else if i = 5 then 9 else 20 + i) < 75
    (repeat' split) <;> omega
  case hdag =>
    intro i o ho
    have hi : i < 6 := (Array.getElem?_eq_some_iff.1 ho).1
    match i, hi, ho with
    | 0, _, ho => simp only [List.getElem?_toArray, List.getElem?_cons_zero, List.getElem?_cons_succ, Option.some.injEq] at ho; subst ho; decide
    | 1, _, ho => simp only [List.getElem?_toArray, List.getElem?_cons_zero, List.getElem?_cons_succ, Option.some.injEq] at ho; subst ho; decide
    | 2, _, ho => simp only [List.getElem?_toArray, List.getElem?_cons_zero, List.getElem?_cons_succ, Option.some.injEq] at ho; subst ho; decide
    | 3, _, ho => simp only [List.getElem?_toArray, List.getElem?_cons_zero, List.getElem?_cons_succ, Option.some.injEq] at ho; subst ho; decide
    | 4, _, ho => simp only [List.getElem?_toArray, List.getElem?_cons_zero, List.getElem?_cons_succ, Option.some.injEq] at ho; subst ho; decide
    | 5, _, ho => simp only [List.getElem?_toArray, List.getElem?_cons_zero, List.getElem?_cons_succ, Option.some.injEq] at ho; subst ho; decide
  case hmen =>
    intro i o ho
    have hi : i < 6 := (Array.getElem?_eq_some_iff.1 ho).1
    match i, hi, ho with
    | 0, _, ho => exact fun m hm => by simp only [List.mem_singleton] at hm; subst hm; exact ⟨by omega, .inl rfl⟩
    | 1, _, ho => exact fun m hm => by simp only [List.mem_singleton] at hm; subst hm; exact ⟨by omega, .inl rfl⟩
    | 2, _, ho => exact fun m hm => by simp only [List.mem_singleton] at hm; subst hm; exact ⟨by omega, .inl rfl⟩
    | 3, _, ho =>
      simp only [List.getElem?_toArray, List.getElem?_cons_zero, List.getElem?_cons_succ, Option.some.injEq] at ho; subst ho
      intro m hm
      simp only [List.mem_cons, List.not_mem_nil, or_false] at hm
      rcases hm with rfl | rfl
      · exact ⟨by omega, .inr ⟨⟨1, .chain⟩, by simp, rfl, rfl⟩⟩
      · exact ⟨by omega, .inl rfl⟩
    | 4, _, ho =>
      simp only [List.getElem?_toArray, List.getElem?_cons_zero, List.getElem?_cons_succ, Option.some.injEq] at ho; subst ho
      intro m hm
      simp only [List.mem_cons, List.not_mem_nil, or_false] at hm
      rcases hm with rfl | rfl
      · exact ⟨by omega, .inr ⟨⟨1, .data⟩, by simp, rfl, rfl⟩⟩
      · exact ⟨by omega, .inl rfl⟩
    | 5, _, ho =>
      simp only [List.getElem?_toArray, List.getElem?_cons_zero, List.getElem?_cons_succ, Option.some.injEq] at ho; subst ho
      intro m hm
      simp only [List.mem_cons, List.not_mem_nil, or_false] at hm
      rcases hm with rfl | rfl
      · exact ⟨by omega, .inr ⟨⟨3, .data⟩, by simp, rfl, rfl⟩⟩
      · exact ⟨by omega, .inl rfl⟩
  case hS =>
    intro i T T' w w' h hm hb
    match i, h, hm with
    | 0, h, hm => exact (show T'[20]? = T[20]? from hm 0 (by simp)).trans h
    | 1, ⟨u, h1, h2⟩, hm => exact ⟨u, (show T'[21]? = T[21]? from hm 1 (by simp)).trans h1, Kd.R_below h2 hb⟩
    | 2, h, hm => exact (show T'[22]? = T[22]? from hm 2 (by simp)).trans h
    | 3, ⟨u, v, h1, h2, h3, h4, h5⟩, hm => exact ⟨u, v, (show T'[21]? = T[21]? from hm 1 (by simp)).trans h1, (show T'[23]? = T[23]? from hm 3 (by simp)).trans h2, Kd.R_below h3 hb, Kd.R_below h4 hb, h5⟩
    | 4, h, hm => exact (show T'[8]? = T[8]? from hm 4 (by simp)).trans ((show T[8]? = T[21]? from h).trans (show T'[21]? = T[21]? from hm 1 (by simp)).symm)
    | 5, h, hm => exact (show T'[9]? = T[9]? from hm 5 (by simp)).trans ((show T[9]? = T[23]? from h).trans (show T'[23]? = T[23]? from hm 3 (by simp)).symm)
    | _ + 6, _, _ => trivial
  case step =>
    intro i o a w ho hd hs hf hb hdep
    have hi : i < 6 := (Array.getElem?_eq_some_iff.1 ho).1
    have hz : a.tmps.size = 75 := hs
    have BZ : ws.heap.size ≤ w.heap.size := Nat.le_trans (below_size HB.out) (below_size hb)
    match i, hi, ho with
    | 0, _, ho =>
      simp only [List.getElem?_toArray, List.getElem?_cons_zero, List.getElem?_cons_succ, Option.some.injEq] at ho; subst ho
      have e7 : a.eval (.tmp 7) = .pointer (some ⟨g_p, 0, none⟩) := ev_of ((hf 7 (fun j hj => by show (if j = 4 then 8 else if j = 5 then 9 else 20 + j) ≠ 7; (repeat' split) <;> omega)).trans rfl)
      refine see_value (S := fun T w => T[20]? = some (.agg (pg pf))) (v := .agg (pg pf)) (w' := w) ?_ ?_ ?_ (Below.refl _ _)
      · rfl
      · exact run_page_load _ rfl g_p pf e7 (P_p.out.below hb)
      · exact put_self (t := 20) (by rw [hz]; decide)
    | 1, _, ho =>
      simp only [List.getElem?_toArray, List.getElem?_cons_zero, List.getElem?_cons_succ, Option.some.injEq] at ho; subst ho
      have e20 : a.eval (.tmp 20) = .agg (pg pf) := ev_of (hdep ⟨0, .data⟩ (by simp) rfl)
      refine see_call (S := fun T w => ∃ u, T[21]? = some u ∧ Kd.R (Kd.int .u8) 5 w ws.heap.size (fun _ => True) u bx) rfl (reg_enters Try.func39 (by kernel_rfl) rfl #[.agg (pg pf)] rfl (by simp only [List.map_toArray, List.map_cons, List.map_nil, e20])) ?_
      refine (encode_page pf w IP.out LF.out).mono ?_
      rintro e w' ⟨v, rfl, ho_, hb_⟩
      rw [← NB.out] at ho_
      exact ⟨v, rfl, ⟨v, put_self (by rw [hz]; decide), Kd.R_lower ho_ BZ⟩, hb_⟩
    | 2, _, ho =>
      simp only [List.getElem?_toArray, List.getElem?_cons_zero, List.getElem?_cons_succ, Option.some.injEq] at ho; subst ho
      have e7 : a.eval (.tmp 7) = .pointer (some ⟨g_p, 0, none⟩) := ev_of ((hf 7 (fun j hj => by show (if j = 4 then 8 else if j = 5 then 9 else 20 + j) ≠ 7; (repeat' split) <;> omega)).trans rfl)
      refine see_value (S := fun T w => T[22]? = some (.agg (pg pf))) (v := .agg (pg pf)) (w' := w) ?_ ?_ ?_ (Below.refl _ _)
      · rfl
      · exact run_page_load _ rfl g_p pf e7 (P_p.out.below hb)
      · exact put_self (t := 22) (by rw [hz]; decide)
    | 3, _, ho =>
      simp only [List.getElem?_toArray, List.getElem?_cons_zero, List.getElem?_cons_succ, Option.some.injEq] at ho; subst ho
      have e22 : a.eval (.tmp 22) = .agg (pg pf) := ev_of (hdep ⟨2, .data⟩ (by simp) rfl)
      obtain ⟨u, hu1, hu2⟩ : ∃ u, a.tmps[21]? = some u ∧ Kd.R (Kd.int .u8) 5 w ws.heap.size (fun _ => True) u bx := hdep ⟨1, .chain⟩ (by simp) rfl
      refine see_call (S := fun T w => ∃ u v, T[21]? = some u ∧ T[23]? = some v ∧ Kd.R (Kd.int .u8) 5 w ws.heap.size (fun _ => True) u bx ∧ Kd.R (Kd.int .u8) 5 w ws.heap.size (fun _ => True) v bx ∧ ∀ j k, u.ownBlock = some j → v.ownBlock = some k → j < k) rfl (reg_enters Try.func39 (by kernel_rfl) rfl #[.agg (pg pf)] rfl (by simp only [List.map_toArray, List.map_cons, List.map_nil, e22])) ?_
      refine (encode_page pf w IP.out LF.out).mono ?_
      rintro e w' ⟨v, rfl, ho_, hb_⟩
      rw [← NB.out] at ho_
      refine ⟨v, rfl, ⟨u, v, (put_other (by decide)).trans hu1, put_self (by rw [hz]; decide), Kd.R_below hu2 hb_, Kd.R_lower ho_ BZ, fun j k hj hk => ?_⟩, hb_⟩
      have h1 := (R_below_size hu2 j hj).2
      have h2 := (R_below_size ho_ k hk).1
      omega
    | 4, _, ho =>
      simp only [List.getElem?_toArray, List.getElem?_cons_zero, List.getElem?_cons_succ, Option.some.injEq] at ho; subst ho
      obtain ⟨u, hu1, hu2⟩ : ∃ u, a.tmps[21]? = some u ∧ Kd.R (Kd.int .u8) 5 w ws.heap.size (fun _ => True) u bx := hdep ⟨1, .data⟩ (by simp) rfl
      have e21 := ev_of hu1
      exact see_value (S := fun T w => T[8]? = T[21]?) (v := u) (w' := w) rfl (by simp only [execOp, e21]; go_simp) ((put_self (t := 8) (by rw [hz]; decide)).trans ((put_other (t := 8) (by decide)).trans hu1).symm) (Below.refl _ _)
    | 5, _, ho =>
      simp only [List.getElem?_toArray, List.getElem?_cons_zero, List.getElem?_cons_succ, Option.some.injEq] at ho; subst ho
      obtain ⟨u, v, hu1, hv1, _⟩ : ∃ u v, a.tmps[21]? = some u ∧ a.tmps[23]? = some v ∧ Kd.R (Kd.int .u8) 5 w ws.heap.size (fun _ => True) u bx ∧ Kd.R (Kd.int .u8) 5 w ws.heap.size (fun _ => True) v bx ∧ ∀ j k, u.ownBlock = some j → v.ownBlock = some k → j < k := hdep ⟨3, .data⟩ (by simp) rfl
      have e23 := ev_of hv1
      exact see_value (S := fun T w => T[9]? = T[23]?) (v := v) (w' := w) rfl (by simp only [execOp, e23]; go_simp) ((put_self (t := 9) (by rw [hz]; decide)).trans ((put_other (t := 9) (by decide)).trans hv1).symm) (Below.refl _ _)
  case hend =>
    intro vs w hb hall hat
    have h0 := (hat 0 (by omega)).symm.trans (hall 0 (by omega))
    have h2 := (hat 2 (by omega)).symm.trans (hall 2 (by omega))
    obtain ⟨u, v, hu, hv, hur, hvr, hlt⟩ := hall 3 (by omega)
    have hu1 := (hat 1 (by omega)).symm.trans hu
    have hv1 := (hat 3 (by omega)).symm.trans hv
    have h4 := ((hat 4 (by omega)).symm.trans (hall 4 (by omega))).trans hu
    have h5 := ((hat 5 (by omega)).symm.trans (hall 5 (by omega))).trans hv
    injection h0 with s0
    injection h2 with s2
    injection hu1 with s1
    injection hv1 with s3
    injection h4 with s4
    injection h5 with s5
    obtain ⟨A_x, c_x, e_x⟩ := Kd.R_slice hur
    obtain ⟨A_y, c_y, e_y⟩ := Kd.R_slice hvr
    subst e_x e_y
    obtain ⟨g_x, hA_x, _, _, _⟩ := R_form hur (by have := LB.out; omega)
    obtain ⟨g_y, hA_y, _, _, _⟩ := R_form hvr (by have := LB.out; omega)
    have GXY0 := hlt g_x g_y (by rw [hA_x]; rfl) (by rw [hA_y]; rfl)
    subst hA_x hA_y
    clear hat hall hu hv
    simp only [fillN, Act.put, reduceIte, Nat.reduceEqDiff, Nat.reduceAdd, s0, s1, s2, s3, s4, s5, List.setIfInBounds_toArray, List.set_cons_zero, List.set_cons_succ]
    have H_x := Aside0.mk hur
    have H_y := Aside0.mk hvr
    have GXY := Aside0.mk GXY0
    replace P_p := Aside0.mk (P_p.out.below hb)
    replace HB := Aside0.mk (below_step HB.out hb)
    clear hb hur hvr hlt s0 s1 s2 s3 s4 s5 GXY0 HINJ
    obtain ⟨y2, hy2⟩ : ∃ y : List SP, y = [(some ⟨g_x, 0, none⟩, bx.length, c_x), (some ⟨g_y, 0, none⟩, bx.length, c_y)] := ⟨_, rfl⟩
    have Ny2 := Aside0.mk hy2
    clear hy2
    go_upto_region 11 with (first | ((with_reducible refine gate_callee (f := 37) rfl ?_); (with_reducible refine gate_dst (N := 26) rfl ?_); (try (refine gate_guard (by rfl) ?_; dsimp only)); refine goesL_ (some 26) rfl rfl Try.func37 (by kernel_rfl) rfl #[.slice (some ⟨g_x, 0, none⟩) bx.length c_x] rfl (by (try simp only [List.map_toArray, List.map_cons, List.map_nil]); first | done | rfl) ?_; (refine (decode_is (some ⟨g_x, 0, none⟩) c_x bx _ ?side1 ?side2 (BB.out) pf none (D1.out)).mono ?_); (case side1 => exact (Kd.R_reads' H_x.out).2.2); (case side2 => exact (Kd.R_reads' H_x.out).2.1); rintro e w_d1 ⟨rfl, hb_⟩; refine ⟨_, rfl, ?_⟩; have HB0_ := HB; replace P_p := Aside0.mk (P_p.out.below hb_); replace H_x := Aside0.mk (Kd.R_below H_x.out hb_); replace H_y := Aside0.mk (Kd.R_below H_y.out hb_); replace HB := Aside0.mk (below_step HB.out hb_); clear hb_; (try simp only [errW_none, errW_some]); clear HB0_) | ((with_reducible refine gate_dst (N := 10) rfl ?_); (try (refine gate_guard (by rfl) ?_; dsimp only)); refine page_alloc rfl rfl ?_; intro g_q w_q hg_ hp_ hb_; have G_q := Aside0.mk (show ws.heap.size ≤ g_q by rw [hg_]; exact below_size HB.out); have NE_p_q := Aside0.mk (show g_p < g_q by rw [hg_]; exact P_p.out.lt); replace P_p := Aside0.mk (P_p.out.below hb_); replace H_x := Aside0.mk (Kd.R_below H_x.out hb_); replace H_y := Aside0.mk (Kd.R_below H_y.out hb_); have P_q := Aside0.mk hp_; replace HB := Aside0.mk (below_step HB.out hb_); clear hg_ hp_ hb_) | ((with_reducible refine gate_op (.store 65 (.tmp 10) (.tmp 27)) rfl ?_); (try (refine gate_guard (by rfl) ?_; dsimp only)); refine page_store rfl rfl (.tmp 10) (.tmp 27) rfl g_q _ pf rfl rfl P_q.out (LF.out) ?_; intro w_s2 hp_ hg_; replace P_p := Aside0.mk (P_p.out.grown hg_ (fun e => by injection e with e; have := NE_p_q.out; omega)); replace H_x := Aside0.mk (row_far P_q.out H_x.out (by decide) hg_); replace H_y := Aside0.mk (row_far P_q.out H_y.out (by decide) hg_); replace P_q := Aside0.mk hp_; replace HB := Aside0.mk (page_below HB.out hg_ G_q.out); clear hp_ hg_) | ((with_reducible refine gate_dst (N := 32) rfl ?_); (try (refine gate_guard (by rfl) ?_; dsimp only)); refine page_load rfl _ rfl g_q _ rfl P_q.out ?_) | ((with_reducible refine gate_dst (N := 33) rfl ?_); (try (refine gate_guard (by rfl) ?_; dsimp only)); refine page_load rfl _ rfl g_p _ rfl P_p.out ?_) | ((with_reducible refine gate_dst (N := 34) rfl ?_); (try (refine gate_guard (by rfl) ?_; dsimp only)); refine page_neq rfl _ _ rfl pf pf rfl rfl (LF.out) (LF.out) true (decide_eq_true rfl) ?_) | ((with_reducible refine gate_dst (N := 44) rfl ?_); (try (refine gate_guard (by rfl) ?_; dsimp only)); refine Kd.R_lit (w0 := w_s2) (SL) w_s2.heap.size 22 ?hg (N := 44) ?hd (xs := [(some ⟨g_x, 0, none⟩, bx.length, c_x), (some ⟨g_y, 0, none⟩, bx.length, c_y)]) (inner := [.slice (some ⟨g_x, 0, none⟩) bx.length c_x, .slice (some ⟨g_y, 0, none⟩) bx.length c_y]) (ok := fun _ => True) (okp := fun _ => True) ?hr ?hp (fun _ hk => hk) trivial (Below.refl _ _) (Nat.le_refl _) (by simp) ?_; (case hd => rfl); (case hg => rfl); (case hr => first | (go_simp; done) | (go_simp; rfl)); (case hp => exact (Reps.one (show Kd.M SL _ _ _ ((some ⟨g_x, 0, none⟩), bx.length, c_x) [.slice (some ⟨g_x, 0, none⟩) bx.length c_x] from rfl) (Reps.one (show Kd.M SL _ _ _ ((some ⟨g_y, 0, none⟩), bx.length, c_y) [.slice (some ⟨g_y, 0, none⟩) bx.length c_y] from rfl) (Reps.none _ _)))); have HB0_ := HB; have ZY := Aside0.mk (show g_y + 1 ≤ w_s2.heap.size from (R_below_size H_y.out g_y rfl).2); intro v_l2 w_l2 ho_ hb_ hg_ hnew_; rw [← Ny2.out] at ho_; replace P_p := Aside0.mk (P_p.out.below hb_); replace H_x := Aside0.mk (Kd.R_below H_x.out hb_); replace H_y := Aside0.mk (Kd.R_below H_y.out hb_); replace P_q := Aside0.mk (P_q.out.below hb_); replace HB := Aside0.mk (below_step HB.out hb_); obtain ⟨A_l2, c_l2, e_l2⟩ := Kd.R_slice ho_; subst e_l2; obtain ⟨f2, hf2, hO2⟩ := ph1_two A_l2 Ny2.out (R_tag H_x.out (ok' := fun k => k < g_y) GXY.out) (R_tag H_y.out (ok' := fun k => g_y ≤ k ∧ k < g_y + 1) ⟨Nat.le_refl _, Nat.lt_succ_self _⟩) (Kd.F_mono (Kd.R_F (Kd.R_bound ho_)) (fun k hk => Nat.le_trans (ZY.out) hk.2.1)) (Nat.le_succ _); have HF2 := Aside0.mk hf2; have HO2 := Aside0.mk hO2; clear hf2 hO2 ho_ hb_ hg_ hnew_ HB0_) | ((with_reducible refine gate_callee (f := 25) rfl ?_); (with_reducible refine gate_dst (N := 45) rfl ?_); (try (refine gate_guard (by rfl) ?_; dsimp only)); refine goesL_ (some 45) rfl rfl Try.func25 (by kernel_rfl) rfl #[.slice A_l2 y2.length c_l2] rfl (by (try simp only [List.map_toArray, List.map_cons, List.map_nil]); first | done | rfl) ?_; (refine (apart_keep g_q pf f2 y2 A_l2 c_l2 ws.heap.size _ (below_size HB.out) (by rw [Ny2.out]; simp) (by rw [Ny2.out]; have := LB.out; intro p hp; simp only [List.mem_cons, List.not_mem_nil, or_false] at hp; rcases hp with rfl | rfl <;> (show List.length _ ≤ _; omega)) HO2.out HF2.out P_q.out).mono ?_); rintro e w_ap ⟨rfl, hb_, hp_⟩; refine ⟨_, rfl, ?_⟩; replace P_q := Aside0.mk hp_; replace HB := Aside0.mk (HB.out.trans hb_); clear hb_ hp_ HO2 HF2 H_x H_y P_p) | ((with_reducible refine gate_callee (f := 37) rfl ?_); (with_reducible refine gate_dst (N := 50) rfl ?_); (try (refine gate_guard (by rfl) ?_; dsimp only)); refine goesL_ (some 50) rfl rfl Try.func37 (by kernel_rfl) rfl #[.slice Ab lb.length cb] rfl (by (try simp only [List.map_toArray, List.map_cons, List.map_nil]); first | done | rfl) ?_; (refine (decode_is Ab cb lb _ ?side1 ?side2 (BLB.out) pr er (DD.out)).mono ?_); (case side1 => exact (Kd.C_below CBB.out HB.out)); (case side2 => exact LBB.out); rintro e w_d2 ⟨rfl, hb_⟩; refine ⟨_, rfl, ?_⟩; have HB0_ := HB; replace P_q := Aside0.mk (P_q.out.below hb_); replace HB := Aside0.mk (below_step HB.out hb_); clear hb_; (try simp only [errW_none, errW_some]); clear HB0_) | ((with_reducible refine gate_op (.store 65 (.tmp 10) (.tmp 51)) rfl ?_); (try (refine gate_guard (by rfl) ?_; dsimp only)); refine page_store rfl rfl (.tmp 10) (.tmp 51) rfl g_q _ pr rfl rfl P_q.out (LPR.out) ?_; intro w_s3 hp_ hg_; replace P_q := Aside0.mk hp_; replace HB := Aside0.mk (page_below HB.out hg_ G_q.out); clear hp_ hg_))
    have hcase := CASE.out
    clear CASE
    rcases hcase with h | ⟨h, hp, hz⟩ | ⟨h, hi, he⟩
    · subst h
      refine region_mem (n := 23) (by kernel_rfl) rfl (fun i => if i = 22 then 6 else 53 + i) ?hN (fun i j hi_ hj_ h => by have h' : (if i = 22 then 6 else 53 + i) = (if j = 22 then 6 else 53 + j) := h; (repeat' split at h') <;> omega) (fun i hi => by show (if i = 22 then 6 else 53 + i) < _; (repeat' split) <;> (simp; try omega)) ?hdag (fun i u_ w => match i with | 0 => u_ = .iface 49 (.int .i64 4) | 1 => u_ = .bool true | 2 => u_ = .bool true | 3 => u_ = undef | 4 => u_ = undef | 5 => u_ = undef | 6 => u_ = undef | 7 => u_ = undef | 8 => u_ = undef | 9 => u_ = .bool true | 10 => u_ = .bool true | 11 => u_ = undef | 12 => u_ = undef | 13 => u_ = undef | 14 => u_ = undef | 15 => u_ = undef | 16 => u_ = undef | 17 => u_ = undef | 18 => u_ = undef | 19 => u_ = undef | 20 => u_ = undef | 21 => u_ = .bool true | 22 => u_ = .bool true | _ => True) ?hS ?step ?hend
      case hN =>
        intro i o ho
        have hi : i < 23 := (Array.getElem?_eq_some_iff.1 ho).1
        match i, hi, ho with
        | 0, _, ho => simp only [List.getElem?_toArray, List.getElem?_cons_zero, List.getElem?_cons_succ, Option.some.injEq] at ho; subst ho; rfl
        | 1, _, ho => simp only [List.getElem?_toArray, List.getElem?_cons_zero, List.getElem?_cons_succ, Option.some.injEq] at ho; subst ho; rfl
        | 2, _, ho => simp only [List.getElem?_toArray, List.getElem?_cons_zero, List.getElem?_cons_succ, Option.some.injEq] at ho; subst ho; rfl
        | 3, _, ho => simp only [List.getElem?_toArray, List.getElem?_cons_zero, List.getElem?_cons_succ, Option.some.injEq] at ho; subst ho; rfl
        | 4, _, ho => simp only [List.getElem?_toArray, List.getElem?_cons_zero, List.getElem?_cons_succ, Option.some.injEq] at ho; subst ho; rfl
        | 5, _, ho => simp only [List.getElem?_toArray, List.getElem?_cons_zero, List.getElem?_cons_succ, Option.some.injEq] at ho; subst ho; rfl
        | 6, _, ho => simp only [List.getElem?_toArray, List.getElem?_cons_zero, List.getElem?_cons_succ, Option.some.injEq] at ho; subst ho; rfl
        | 7, _, ho => simp only [List.getElem?_toArray, List.getElem?_cons_zero, List.getElem?_cons_succ, Option.some.injEq] at ho; subst ho; rfl
        | 8, _, ho => simp only [List.getElem?_toArray, List.getElem?_cons_zero, List.getElem?_cons_succ, Option.some.injEq] at ho; subst ho; rfl
        | 9, _, ho => simp only [List.getElem?_toArray, List.getElem?_cons_zero, List.getElem?_cons_succ, Option.some.injEq] at ho; subst ho; rfl
        | 10, _, ho => simp only [List.getElem?_toArray, List.getElem?_cons_zero, List.getElem?_cons_succ, Option.some.injEq] at ho; subst ho; rfl
        | 11, _, ho => simp only [List.getElem?_toArray, List.getElem?_cons_zero, List.getElem?_cons_succ, Option.some.injEq] at ho; subst ho; rfl
        | 12, _, ho => simp only [List.getElem?_toArray, List.getElem?_cons_zero, List.getElem?_cons_succ, Option.some.injEq] at ho; subst ho; rfl
        | 13, _, ho => simp only [List.getElem?_toArray, List.getElem?_cons_zero, List.getElem?_cons_succ, Option.some.injEq] at ho; subst ho; rfl
        | 14, _, ho => simp only [List.getElem?_toArray, List.getElem?_cons_zero, List.getElem?_cons_succ, Option.some.injEq] at ho; subst ho; rfl
        | 15, _, ho => simp only [List.getElem?_toArray, List.getElem?_cons_zero, List.getElem?_cons_succ, Option.some.injEq] at ho; subst ho; rfl
        | 16, _, ho => simp only [List.getElem?_toArray, List.getElem?_cons_zero, List.getElem?_cons_succ, Option.some.injEq] at ho; subst ho; rfl
        | 17, _, ho => simp only [List.getElem?_toArray, List.getElem?_cons_zero, List.getElem?_cons_succ, Option.some.injEq] at ho; subst ho; rfl
        | 18, _, ho => simp only [List.getElem?_toArray, List.getElem?_cons_zero, List.getElem?_cons_succ, Option.some.injEq] at ho; subst ho; rfl
        | 19, _, ho => simp only [List.getElem?_toArray, List.getElem?_cons_zero, List.getElem?_cons_succ, Option.some.injEq] at ho; subst ho; rfl
        | 20, _, ho => simp only [List.getElem?_toArray, List.getElem?_cons_zero, List.getElem?_cons_succ, Option.some.injEq] at ho; subst ho; rfl
        | 21, _, ho => simp only [List.getElem?_toArray, List.getElem?_cons_zero, List.getElem?_cons_succ, Option.some.injEq] at ho; subst ho; rfl
        | 22, _, ho => simp only [List.getElem?_toArray, List.getElem?_cons_zero, List.getElem?_cons_succ, Option.some.injEq] at ho; subst ho; rfl
      case hdag =>
        intro i o ho
        have hi : i < 23 := (Array.getElem?_eq_some_iff.1 ho).1
        match i, hi, ho with
        | 0, _, ho => simp only [List.getElem?_toArray, List.getElem?_cons_zero, List.getElem?_cons_succ, Option.some.injEq] at ho; subst ho; decide
        | 1, _, ho => simp only [List.getElem?_toArray, List.getElem?_cons_zero, List.getElem?_cons_succ, Option.some.injEq] at ho; subst ho; decide
        | 2, _, ho => simp only [List.getElem?_toArray, List.getElem?_cons_zero, List.getElem?_cons_succ, Option.some.injEq] at ho; subst ho; decide
        | 3, _, ho => simp only [List.getElem?_toArray, List.getElem?_cons_zero, List.getElem?_cons_succ, Option.some.injEq] at ho; subst ho; decide
        | 4, _, ho => simp only [List.getElem?_toArray, List.getElem?_cons_zero, List.getElem?_cons_succ, Option.some.injEq] at ho; subst ho; decide
        | 5, _, ho => simp only [List.getElem?_toArray, List.getElem?_cons_zero, List.getElem?_cons_succ, Option.some.injEq] at ho; subst ho; decide
        | 6, _, ho => simp only [List.getElem?_toArray, List.getElem?_cons_zero, List.getElem?_cons_succ, Option.some.injEq] at ho; subst ho; decide
        | 7, _, ho => simp only [List.getElem?_toArray, List.getElem?_cons_zero, List.getElem?_cons_succ, Option.some.injEq] at ho; subst ho; decide
        | 8, _, ho => simp only [List.getElem?_toArray, List.getElem?_cons_zero, List.getElem?_cons_succ, Option.some.injEq] at ho; subst ho; decide
        | 9, _, ho => simp only [List.getElem?_toArray, List.getElem?_cons_zero, List.getElem?_cons_succ, Option.some.injEq] at ho; subst ho; decide
        | 10, _, ho => simp only [List.getElem?_toArray, List.getElem?_cons_zero, List.getElem?_cons_succ, Option.some.injEq] at ho; subst ho; decide
        | 11, _, ho => simp only [List.getElem?_toArray, List.getElem?_cons_zero, List.getElem?_cons_succ, Option.some.injEq] at ho; subst ho; decide
        | 12, _, ho => simp only [List.getElem?_toArray, List.getElem?_cons_zero, List.getElem?_cons_succ, Option.some.injEq] at ho; subst ho; decide
        | 13, _, ho => simp only [List.getElem?_toArray, List.getElem?_cons_zero, List.getElem?_cons_succ, Option.some.injEq] at ho; subst ho; decide
        | 14, _, ho => simp only [List.getElem?_toArray, List.getElem?_cons_zero, List.getElem?_cons_succ, Option.some.injEq] at ho; subst ho; decide
        | 15, _, ho => simp only [List.getElem?_toArray, List.getElem?_cons_zero, List.getElem?_cons_succ, Option.some.injEq] at ho; subst ho; decide
        | 16, _, ho => simp only [List.getElem?_toArray, List.getElem?_cons_zero, List.getElem?_cons_succ, Option.some.injEq] at ho; subst ho; decide
        | 17, _, ho => simp only [List.getElem?_toArray, List.getElem?_cons_zero, List.getElem?_cons_succ, Option.some.injEq] at ho; subst ho; decide
        | 18, _, ho => simp only [List.getElem?_toArray, List.getElem?_cons_zero, List.getElem?_cons_succ, Option.some.injEq] at ho; subst ho; decide
        | 19, _, ho => simp only [List.getElem?_toArray, List.getElem?_cons_zero, List.getElem?_cons_succ, Option.some.injEq] at ho; subst ho; decide
        | 20, _, ho => simp only [List.getElem?_toArray, List.getElem?_cons_zero, List.getElem?_cons_succ, Option.some.injEq] at ho; subst ho; decide
        | 21, _, ho => simp only [List.getElem?_toArray, List.getElem?_cons_zero, List.getElem?_cons_succ, Option.some.injEq] at ho; subst ho; decide
        | 22, _, ho => simp only [List.getElem?_toArray, List.getElem?_cons_zero, List.getElem?_cons_succ, Option.some.injEq] at ho; subst ho; decide
      case hS =>
        intro i u_ w w' h hb
        match i, h with
        | 0, h => exact h
        | 1, h => exact h
        | 2, h => exact h
        | 3, h => exact h
        | 4, h => exact h
        | 5, h => exact h
        | 6, h => exact h
        | 7, h => exact h
        | 8, h => exact h
        | 9, h => exact h
        | 10, h => exact h
        | 11, h => exact h
        | 12, h => exact h
        | 13, h => exact h
        | 14, h => exact h
        | 15, h => exact h
        | 16, h => exact h
        | 17, h => exact h
        | 18, h => exact h
        | 19, h => exact h
        | 20, h => exact h
        | 21, h => exact h
        | 22, h => exact h
        | _ + 23, _ => trivial
      case step =>
        intro i o a w ho hd hs hf hb hdep
        have hi : i < 23 := (Array.getElem?_eq_some_iff.1 ho).1
        match i, hi, ho with
        | 0, _, ho =>
          simp only [List.getElem?_toArray, List.getElem?_cons_zero, List.getElem?_cons_succ, Option.some.injEq] at ho
          subst ho
          have e11 : a.eval (.tmp 11) = .iface 49 (.int .i64 4) := ev_of ((hf 11 (fun j hj => by show (if j = 22 then 6 else 53 + j) ≠ 11; (repeat' split) <;> omega)).trans rfl)
          exact reg_value (S := fun u_ w => u_ = .iface 49 (.int .i64 4)) (v := .iface 49 (.int .i64 4)) (w' := w) rfl (by simp only [execOp, e11]; go_simp) rfl (Below.refl _ _)
        | 1, _, ho =>
          simp only [List.getElem?_toArray, List.getElem?_cons_zero, List.getElem?_cons_succ, Option.some.injEq] at ho
          subst ho
          have t53 : a.tmps[53]? = some (.iface 49 (.int .i64 4)) := by obtain ⟨u_, h1, h2⟩ := hdep ⟨0, .data⟩ (by simp) rfl; rw [show u_ = .iface 49 (.int .i64 4) from h2] at h1; exact h1
          have e53 := ev_of t53
          exact reg_value (S := fun u_ w => u_ = .bool true) (v := .bool true) (w' := w) rfl (by simp only [execOp, e53]; go_simp) rfl (Below.refl _ _)
        | 2, _, ho =>
          simp only [List.getElem?_toArray, List.getElem?_cons_zero, List.getElem?_cons_succ, Option.some.injEq] at ho
          subst ho
          have t54 : a.tmps[54]? = some (.bool true) := by obtain ⟨u_, h1, h2⟩ := hdep ⟨1, .data⟩ (by simp) rfl; rw [show u_ = .bool true from h2] at h1; exact h1
          have e54 := ev_of t54
          exact reg_value (S := fun u_ w => u_ = .bool true) (v := .bool true) (w' := w) rfl (by simp only [execOp, e54]; go_simp) rfl (Below.refl _ _)
        | 3, _, ho =>
          simp only [List.getElem?_toArray, List.getElem?_cons_zero, List.getElem?_cons_succ, Option.some.injEq] at ho
          subst ho
          have t55 : a.tmps[55]? = some (.bool true) := by obtain ⟨u_, h1, h2⟩ := hdep ⟨2, .guard⟩ (by simp) rfl; rw [show u_ = .bool true from h2] at h1; exact h1
          have e55 := ev_of t55
          exact reg_skip (S := fun u_ w => u_ = undef) (wanted_of 2 false true false t55 rfl rfl rfl) rfl
        | 4, _, ho =>
          simp only [List.getElem?_toArray, List.getElem?_cons_zero, List.getElem?_cons_succ, Option.some.injEq] at ho
          subst ho
          have t55 : a.tmps[55]? = some (.bool true) := by obtain ⟨u_, h1, h2⟩ := hdep ⟨2, .guard⟩ (by simp) rfl; rw [show u_ = .bool true from h2] at h1; exact h1
          have e55 := ev_of t55
          exact reg_skip (S := fun u_ w => u_ = undef) (wanted_of 2 false true false t55 rfl rfl rfl) rfl
        | 5, _, ho =>
          simp only [List.getElem?_toArray, List.getElem?_cons_zero, List.getElem?_cons_succ, Option.some.injEq] at ho
          subst ho
          have t55 : a.tmps[55]? = some (.bool true) := by obtain ⟨u_, h1, h2⟩ := hdep ⟨2, .guard⟩ (by simp) rfl; rw [show u_ = .bool true from h2] at h1; exact h1
          have e55 := ev_of t55
          exact reg_skip (S := fun u_ w => u_ = undef) (wanted_of 2 false true false t55 rfl rfl rfl) rfl
        | 6, _, ho =>
          simp only [List.getElem?_toArray, List.getElem?_cons_zero, List.getElem?_cons_succ, Option.some.injEq] at ho
          subst ho
          have t55 : a.tmps[55]? = some (.bool true) := by obtain ⟨u_, h1, h2⟩ := hdep ⟨2, .guard⟩ (by simp) rfl; rw [show u_ = .bool true from h2] at h1; exact h1
          have e55 := ev_of t55
          exact reg_skip (S := fun u_ w => u_ = undef) (wanted_of 2 false true false t55 rfl rfl rfl) rfl
        | 7, _, ho =>
          simp only [List.getElem?_toArray, List.getElem?_cons_zero, List.getElem?_cons_succ, Option.some.injEq] at ho
          subst ho
          have t55 : a.tmps[55]? = some (.bool true) := by obtain ⟨u_, h1, h2⟩ := hdep ⟨2, .guard⟩ (by simp) rfl; rw [show u_ = .bool true from h2] at h1; exact h1
          have e55 := ev_of t55
          exact reg_skip (S := fun u_ w => u_ = undef) (wanted_of 2 false true false t55 rfl rfl rfl) rfl
        | 8, _, ho =>
          simp only [List.getElem?_toArray, List.getElem?_cons_zero, List.getElem?_cons_succ, Option.some.injEq] at ho
          subst ho
          have t55 : a.tmps[55]? = some (.bool true) := by obtain ⟨u_, h1, h2⟩ := hdep ⟨2, .guard⟩ (by simp) rfl; rw [show u_ = .bool true from h2] at h1; exact h1
          have e55 := ev_of t55
          exact reg_skip (S := fun u_ w => u_ = undef) (wanted_of 2 false true false t55 rfl rfl rfl) rfl
        | 9, _, ho =>
          simp only [List.getElem?_toArray, List.getElem?_cons_zero, List.getElem?_cons_succ, Option.some.injEq] at ho
          subst ho
          have t55 : a.tmps[55]? = some (.bool true) := by obtain ⟨u_, h1, h2⟩ := hdep ⟨2, .data⟩ (by simp) rfl; rw [show u_ = .bool true from h2] at h1; exact h1
          have e55 := ev_of t55
          have t61 : a.tmps[61]? = some (undef) := by obtain ⟨u_, h1, h2⟩ := hdep ⟨8, .data⟩ (by simp) rfl; rw [show u_ = undef from h2] at h1; exact h1
          have e61 := ev_of t61
          exact reg_value (S := fun u_ w => u_ = .bool true) (v := .bool true) (w' := w) rfl (by simp only [execOp, e55, e61]; go_simp) rfl (Below.refl _ _)
        | 10, _, ho =>
          simp only [List.getElem?_toArray, List.getElem?_cons_zero, List.getElem?_cons_succ, Option.some.injEq] at ho
          subst ho
          have t62 : a.tmps[62]? = some (.bool true) := by obtain ⟨u_, h1, h2⟩ := hdep ⟨9, .data⟩ (by simp) rfl; rw [show u_ = .bool true from h2] at h1; exact h1
          have e62 := ev_of t62
          exact reg_value (S := fun u_ w => u_ = .bool true) (v := .bool true) (w' := w) rfl (by simp only [execOp, e62]; go_simp) rfl (Below.refl _ _)
        | 11, _, ho =>
          simp only [List.getElem?_toArray, List.getElem?_cons_zero, List.getElem?_cons_succ, Option.some.injEq] at ho
          subst ho
          have t63 : a.tmps[63]? = some (.bool true) := by obtain ⟨u_, h1, h2⟩ := hdep ⟨10, .guard⟩ (by simp) rfl; rw [show u_ = .bool true from h2] at h1; exact h1
          have e63 := ev_of t63
          exact reg_skip (S := fun u_ w => u_ = undef) (wanted_of 10 false true false t63 rfl rfl rfl) rfl
        | 12, _, ho =>
          simp only [List.getElem?_toArray, List.getElem?_cons_zero, List.getElem?_cons_succ, Option.some.injEq] at ho
          subst ho
          have t63 : a.tmps[63]? = some (.bool true) := by obtain ⟨u_, h1, h2⟩ := hdep ⟨10, .guard⟩ (by simp) rfl; rw [show u_ = .bool true from h2] at h1; exact h1
          have e63 := ev_of t63
          exact reg_skip (S := fun u_ w => u_ = undef) (wanted_of 10 false true false t63 rfl rfl rfl) rfl
        | 13, _, ho =>
          simp only [List.getElem?_toArray, List.getElem?_cons_zero, List.getElem?_cons_succ, Option.some.injEq] at ho
          subst ho
          have t63 : a.tmps[63]? = some (.bool true) := by obtain ⟨u_, h1, h2⟩ := hdep ⟨10, .guard⟩ (by simp) rfl; rw [show u_ = .bool true from h2] at h1; exact h1
          have e63 := ev_of t63
          exact reg_skip (S := fun u_ w => u_ = undef) (wanted_of 10 false true false t63 rfl rfl rfl) rfl
        | 14, _, ho =>
          simp only [List.getElem?_toArray, List.getElem?_cons_zero, List.getElem?_cons_succ, Option.some.injEq] at ho
          subst ho
          have t63 : a.tmps[63]? = some (.bool true) := by obtain ⟨u_, h1, h2⟩ := hdep ⟨10, .guard⟩ (by simp) rfl; rw [show u_ = .bool true from h2] at h1; exact h1
          have e63 := ev_of t63
          exact reg_skip (S := fun u_ w => u_ = undef) (wanted_of 10 false true false t63 rfl rfl rfl) rfl
        | 15, _, ho =>
          simp only [List.getElem?_toArray, List.getElem?_cons_zero, List.getElem?_cons_succ, Option.some.injEq] at ho
          subst ho
          have t67 : a.tmps[67]? = some (undef) := by obtain ⟨u_, h1, h2⟩ := hdep ⟨14, .guard⟩ (by simp) rfl; rw [show u_ = undef from h2] at h1; exact h1
          have e67 := ev_of t67
          exact reg_skip (S := fun u_ w => u_ = undef) (unwanted_of 14 true t67 rfl rfl) rfl
        | 16, _, ho =>
          simp only [List.getElem?_toArray, List.getElem?_cons_zero, List.getElem?_cons_succ, Option.some.injEq] at ho
          subst ho
          have t67 : a.tmps[67]? = some (undef) := by obtain ⟨u_, h1, h2⟩ := hdep ⟨14, .guard⟩ (by simp) rfl; rw [show u_ = undef from h2] at h1; exact h1
          have e67 := ev_of t67
          exact reg_skip (S := fun u_ w => u_ = undef) (unwanted_of 14 true t67 rfl rfl) rfl
        | 17, _, ho =>
          simp only [List.getElem?_toArray, List.getElem?_cons_zero, List.getElem?_cons_succ, Option.some.injEq] at ho
          subst ho
          have t67 : a.tmps[67]? = some (undef) := by obtain ⟨u_, h1, h2⟩ := hdep ⟨14, .guard⟩ (by simp) rfl; rw [show u_ = undef from h2] at h1; exact h1
          have e67 := ev_of t67
          exact reg_skip (S := fun u_ w => u_ = undef) (unwanted_of 14 true t67 rfl rfl) rfl
        | 18, _, ho =>
          simp only [List.getElem?_toArray, List.getElem?_cons_zero, List.getElem?_cons_succ, Option.some.injEq] at ho
          subst ho
          have t67 : a.tmps[67]? = some (undef) := by obtain ⟨u_, h1, h2⟩ := hdep ⟨14, .guard⟩ (by simp) rfl; rw [show u_ = undef from h2] at h1; exact h1
          have e67 := ev_of t67
          exact reg_skip (S := fun u_ w => u_ = undef) (unwanted_of 14 true t67 rfl rfl) rfl
        | 19, _, ho =>
          simp only [List.getElem?_toArray, List.getElem?_cons_zero, List.getElem?_cons_succ, Option.some.injEq] at ho
          subst ho
          have t67 : a.tmps[67]? = some (undef) := by obtain ⟨u_, h1, h2⟩ := hdep ⟨14, .guard⟩ (by simp) rfl; rw [show u_ = undef from h2] at h1; exact h1
          have e67 := ev_of t67
          exact reg_skip (S := fun u_ w => u_ = undef) (unwanted_of 14 true t67 rfl rfl) rfl
        | 20, _, ho =>
          simp only [List.getElem?_toArray, List.getElem?_cons_zero, List.getElem?_cons_succ, Option.some.injEq] at ho
          subst ho
          have t63 : a.tmps[63]? = some (.bool true) := by obtain ⟨u_, h1, h2⟩ := hdep ⟨10, .guard⟩ (by simp) rfl; rw [show u_ = .bool true from h2] at h1; exact h1
          have e63 := ev_of t63
          exact reg_skip (S := fun u_ w => u_ = undef) (wanted_of 10 false true false t63 rfl rfl rfl) rfl
        | 21, _, ho =>
          simp only [List.getElem?_toArray, List.getElem?_cons_zero, List.getElem?_cons_succ, Option.some.injEq] at ho
          subst ho
          have t63 : a.tmps[63]? = some (.bool true) := by obtain ⟨u_, h1, h2⟩ := hdep ⟨10, .data⟩ (by simp) rfl; rw [show u_ = .bool true from h2] at h1; exact h1
          have e63 := ev_of t63
          have t73 : a.tmps[73]? = some (undef) := by obtain ⟨u_, h1, h2⟩ := hdep ⟨20, .data⟩ (by simp) rfl; rw [show u_ = undef from h2] at h1; exact h1
          have e73 := ev_of t73
          exact reg_value (S := fun u_ w => u_ = .bool true) (v := .bool true) (w' := w) rfl (by simp only [execOp, e63, e73]; go_simp) rfl (Below.refl _ _)
        | 22, _, ho =>
          simp only [List.getElem?_toArray, List.getElem?_cons_zero, List.getElem?_cons_succ, Option.some.injEq] at ho
          subst ho
          have t74 : a.tmps[74]? = some (.bool true) := by obtain ⟨u_, h1, h2⟩ := hdep ⟨21, .data⟩ (by simp) rfl; rw [show u_ = .bool true from h2] at h1; exact h1
          have e74 := ev_of t74
          exact reg_value (S := fun u_ w => u_ = .bool true) (v := .bool true) (w' := w) rfl (by simp only [execOp, e74]; go_simp) rfl (Below.refl _ _)
      case hend =>
        intro vs w hb hall
        have s0 : vs 0 = .iface 49 (.int .i64 4) := hall 0 (by omega)
        have s1 : vs 1 = .bool true := hall 1 (by omega)
        have s2 : vs 2 = .bool true := hall 2 (by omega)
        have s3 : vs 3 = undef := hall 3 (by omega)
        have s4 : vs 4 = undef := hall 4 (by omega)
        have s5 : vs 5 = undef := hall 5 (by omega)
        have s6 : vs 6 = undef := hall 6 (by omega)
        have s7 : vs 7 = undef := hall 7 (by omega)
        have s8 : vs 8 = undef := hall 8 (by omega)
        have s9 : vs 9 = .bool true := hall 9 (by omega)
        have s10 : vs 10 = .bool true := hall 10 (by omega)
        have s11 : vs 11 = undef := hall 11 (by omega)
        have s12 : vs 12 = undef := hall 12 (by omega)
        have s13 : vs 13 = undef := hall 13 (by omega)
        have s14 : vs 14 = undef := hall 14 (by omega)
        have s15 : vs 15 = undef := hall 15 (by omega)
        have s16 : vs 16 = undef := hall 16 (by omega)
        have s17 : vs 17 = undef := hall 17 (by omega)
        have s18 : vs 18 = undef := hall 18 (by omega)
        have s19 : vs 19 = undef := hall 19 (by omega)
        have s20 : vs 20 = undef := hall 20 (by omega)
        have s21 : vs 21 = .bool true := hall 21 (by omega)
        have s22 : vs 22 = .bool true := hall 22 (by omega)
        simp only [fillN, Act.put, reduceIte, Nat.reduceEqDiff, Nat.reduceAdd, s0, s1, s2, s3, s4, s5, s6, s7, s8, s9, s10, s11, s12, s13, s14, s15, s16, s17, s18, s19, s20, s21, s22, List.setIfInBounds_toArray, List.set_cons_zero, List.set_cons_succ, Nat.reduceAdd]
        go_wp2
        go_ret
        exact ⟨rfl, below_step HB.out hb⟩
    · subst h
      obtain ⟨ex, hex⟩ : ∃ e, e = encodeOf (pr.headD 0) pr.tail := ⟨_, rfl⟩
      have NE := Aside0.mk hex
      have NPR := Aside0.mk (show pr = List.replicate 61 0 from hp)
      have ZB := Aside0.mk hz
      have LLB := Aside0.mk (show lb.length = 512 by rw [hz, List.length_replicate])
      have IPR := Aside0.mk (show ∀ x ∈ pr, I64 x by intro x hx; rw [NPR.out] at hx; rw [List.eq_of_mem_replicate hx]; unfold I64; omega)
      have hne : ex ≠ lb := by
        rw [hex, hz, NPR.out]
        exact encode_nil (n := 0) (by unfold I64; omega) (by simp)
      have hse : ¬ (strOfNums ex).toList = (strOfNums lb).toList := fun e => hne (str_inj (by rw [hex]; exact encode_bytes _ _) BLB.out e)
      clear hex hp hz hne
      refine region_mem (n := 23) (by kernel_rfl) rfl (fun i => if i = 22 then 6 else 53 + i) ?hN (fun i j hi_ hj_ h => by have h' : (if i = 22 then 6 else 53 + i) = (if j = 22 then 6 else 53 + j) := h; (repeat' split at h') <;> omega) (fun i hi => by show (if i = 22 then 6 else 53 + i) < _; (repeat' split) <;> (simp; try omega)) ?hdag (fun i u_ w => match i with | 0 => u_ = .nilIface | 1 => u_ = .bool false | 2 => u_ = .bool false | 3 => u_ = .agg (pg pr) | 4 => ∃ A c, u_ = .slice A ex.length c ∧ ex.length ≤ c ∧ Kd.C (Kd.int .u8) w A ex.length ex | 5 => u_ = .string (strOfNums ex) | 6 => u_ = .slice Ab lb.length cb | 7 => u_ = .string (strOfNums lb) | 8 => u_ = .bool false | 9 => u_ = .bool false | 10 => u_ = .bool false | 11 => u_ = .agg (pg pr) | 12 => u_ = .agg (pg pr) | 13 => u_ = .bool true | 14 => u_ = .bool true | 15 => u_ = .slice Ab lb.length cb | 16 => u_ = .string (strOfNums lb) | 17 => ∃ A c, u_ = .slice A lb.length c ∧ lb.length ≤ c ∧ Kd.C (Kd.int .u8) w A lb.length lb | 18 => u_ = .string (strOfNums lb) | 19 => u_ = .bool true | 20 => u_ = .bool true | 21 => u_ = .bool true | 22 => u_ = .bool true | _ => True) ?hS ?step ?hend
      case hN =>
        intro i o ho
        have hi : i < 23 := (Array.getElem?_eq_some_iff.1 ho).1
        match i, hi, ho with
        | 0, _, ho => simp only [List.getElem?_toArray, List.getElem?_cons_zero, List.getElem?_cons_succ, Option.some.injEq] at ho; subst ho; rfl
        | 1, _, ho => simp only [List.getElem?_toArray, List.getElem?_cons_zero, List.getElem?_cons_succ, Option.some.injEq] at ho; subst ho; rfl
        | 2, _, ho => simp only [List.getElem?_toArray, List.getElem?_cons_zero, List.getElem?_cons_succ, Option.some.injEq] at ho; subst ho; rfl
        | 3, _, ho => simp only [List.getElem?_toArray, List.getElem?_cons_zero, List.getElem?_cons_succ, Option.some.injEq] at ho; subst ho; rfl
        | 4, _, ho => simp only [List.getElem?_toArray, List.getElem?_cons_zero, List.getElem?_cons_succ, Option.some.injEq] at ho; subst ho; rfl
        | 5, _, ho => simp only [List.getElem?_toArray, List.getElem?_cons_zero, List.getElem?_cons_succ, Option.some.injEq] at ho; subst ho; rfl
        | 6, _, ho => simp only [List.getElem?_toArray, List.getElem?_cons_zero, List.getElem?_cons_succ, Option.some.injEq] at ho; subst ho; rfl
        | 7, _, ho => simp only [List.getElem?_toArray, List.getElem?_cons_zero, List.getElem?_cons_succ, Option.some.injEq] at ho; subst ho; rfl
        | 8, _, ho => simp only [List.getElem?_toArray, List.getElem?_cons_zero, List.getElem?_cons_succ, Option.some.injEq] at ho; subst ho; rfl
        | 9, _, ho => simp only [List.getElem?_toArray, List.getElem?_cons_zero, List.getElem?_cons_succ, Option.some.injEq] at ho; subst ho; rfl
        | 10, _, ho => simp only [List.getElem?_toArray, List.getElem?_cons_zero, List.getElem?_cons_succ, Option.some.injEq] at ho; subst ho; rfl
        | 11, _, ho => simp only [List.getElem?_toArray, List.getElem?_cons_zero, List.getElem?_cons_succ, Option.some.injEq] at ho; subst ho; rfl
        | 12, _, ho => simp only [List.getElem?_toArray, List.getElem?_cons_zero, List.getElem?_cons_succ, Option.some.injEq] at ho; subst ho; rfl
        | 13, _, ho => simp only [List.getElem?_toArray, List.getElem?_cons_zero, List.getElem?_cons_succ, Option.some.injEq] at ho; subst ho; rfl
        | 14, _, ho => simp only [List.getElem?_toArray, List.getElem?_cons_zero, List.getElem?_cons_succ, Option.some.injEq] at ho; subst ho; rfl
        | 15, _, ho => simp only [List.getElem?_toArray, List.getElem?_cons_zero, List.getElem?_cons_succ, Option.some.injEq] at ho; subst ho; rfl
        | 16, _, ho => simp only [List.getElem?_toArray, List.getElem?_cons_zero, List.getElem?_cons_succ, Option.some.injEq] at ho; subst ho; rfl
        | 17, _, ho => simp only [List.getElem?_toArray, List.getElem?_cons_zero, List.getElem?_cons_succ, Option.some.injEq] at ho; subst ho; rfl
        | 18, _, ho => simp only [List.getElem?_toArray, List.getElem?_cons_zero, List.getElem?_cons_succ, Option.some.injEq] at ho; subst ho; rfl
        | 19, _, ho => simp only [List.getElem?_toArray, List.getElem?_cons_zero, List.getElem?_cons_succ, Option.some.injEq] at ho; subst ho; rfl
        | 20, _, ho => simp only [List.getElem?_toArray, List.getElem?_cons_zero, List.getElem?_cons_succ, Option.some.injEq] at ho; subst ho; rfl
        | 21, _, ho => simp only [List.getElem?_toArray, List.getElem?_cons_zero, List.getElem?_cons_succ, Option.some.injEq] at ho; subst ho; rfl
        | 22, _, ho => simp only [List.getElem?_toArray, List.getElem?_cons_zero, List.getElem?_cons_succ, Option.some.injEq] at ho; subst ho; rfl
      case hdag =>
        intro i o ho
        have hi : i < 23 := (Array.getElem?_eq_some_iff.1 ho).1
        match i, hi, ho with
        | 0, _, ho => simp only [List.getElem?_toArray, List.getElem?_cons_zero, List.getElem?_cons_succ, Option.some.injEq] at ho; subst ho; decide
        | 1, _, ho => simp only [List.getElem?_toArray, List.getElem?_cons_zero, List.getElem?_cons_succ, Option.some.injEq] at ho; subst ho; decide
        | 2, _, ho => simp only [List.getElem?_toArray, List.getElem?_cons_zero, List.getElem?_cons_succ, Option.some.injEq] at ho; subst ho; decide
        | 3, _, ho => simp only [List.getElem?_toArray, List.getElem?_cons_zero, List.getElem?_cons_succ, Option.some.injEq] at ho; subst ho; decide
        | 4, _, ho => simp only [List.getElem?_toArray, List.getElem?_cons_zero, List.getElem?_cons_succ, Option.some.injEq] at ho; subst ho; decide
        | 5, _, ho => simp only [List.getElem?_toArray, List.getElem?_cons_zero, List.getElem?_cons_succ, Option.some.injEq] at ho; subst ho; decide
        | 6, _, ho => simp only [List.getElem?_toArray, List.getElem?_cons_zero, List.getElem?_cons_succ, Option.some.injEq] at ho; subst ho; decide
        | 7, _, ho => simp only [List.getElem?_toArray, List.getElem?_cons_zero, List.getElem?_cons_succ, Option.some.injEq] at ho; subst ho; decide
        | 8, _, ho => simp only [List.getElem?_toArray, List.getElem?_cons_zero, List.getElem?_cons_succ, Option.some.injEq] at ho; subst ho; decide
        | 9, _, ho => simp only [List.getElem?_toArray, List.getElem?_cons_zero, List.getElem?_cons_succ, Option.some.injEq] at ho; subst ho; decide
        | 10, _, ho => simp only [List.getElem?_toArray, List.getElem?_cons_zero, List.getElem?_cons_succ, Option.some.injEq] at ho; subst ho; decide
        | 11, _, ho => simp only [List.getElem?_toArray, List.getElem?_cons_zero, List.getElem?_cons_succ, Option.some.injEq] at ho; subst ho; decide
        | 12, _, ho => simp only [List.getElem?_toArray, List.getElem?_cons_zero, List.getElem?_cons_succ, Option.some.injEq] at ho; subst ho; decide
        | 13, _, ho => simp only [List.getElem?_toArray, List.getElem?_cons_zero, List.getElem?_cons_succ, Option.some.injEq] at ho; subst ho; decide
        | 14, _, ho => simp only [List.getElem?_toArray, List.getElem?_cons_zero, List.getElem?_cons_succ, Option.some.injEq] at ho; subst ho; decide
        | 15, _, ho => simp only [List.getElem?_toArray, List.getElem?_cons_zero, List.getElem?_cons_succ, Option.some.injEq] at ho; subst ho; decide
        | 16, _, ho => simp only [List.getElem?_toArray, List.getElem?_cons_zero, List.getElem?_cons_succ, Option.some.injEq] at ho; subst ho; decide
        | 17, _, ho => simp only [List.getElem?_toArray, List.getElem?_cons_zero, List.getElem?_cons_succ, Option.some.injEq] at ho; subst ho; decide
        | 18, _, ho => simp only [List.getElem?_toArray, List.getElem?_cons_zero, List.getElem?_cons_succ, Option.some.injEq] at ho; subst ho; decide
        | 19, _, ho => simp only [List.getElem?_toArray, List.getElem?_cons_zero, List.getElem?_cons_succ, Option.some.injEq] at ho; subst ho; decide
        | 20, _, ho => simp only [List.getElem?_toArray, List.getElem?_cons_zero, List.getElem?_cons_succ, Option.some.injEq] at ho; subst ho; decide
        | 21, _, ho => simp only [List.getElem?_toArray, List.getElem?_cons_zero, List.getElem?_cons_succ, Option.some.injEq] at ho; subst ho; decide
        | 22, _, ho => simp only [List.getElem?_toArray, List.getElem?_cons_zero, List.getElem?_cons_succ, Option.some.injEq] at ho; subst ho; decide
      case hS =>
        intro i u_ w w' h hb
        match i, h with
        | 0, h => exact h
        | 1, h => exact h
        | 2, h => exact h
        | 3, h => exact h
        | 4, ⟨A, c, h1, h2, h3⟩ => exact ⟨A, c, h1, h2, Kd.C_below h3 hb⟩
        | 5, h => exact h
        | 6, h => exact h
        | 7, h => exact h
        | 8, h => exact h
        | 9, h => exact h
        | 10, h => exact h
        | 11, h => exact h
        | 12, h => exact h
        | 13, h => exact h
        | 14, h => exact h
        | 15, h => exact h
        | 16, h => exact h
        | 17, ⟨A, c, h1, h2, h3⟩ => exact ⟨A, c, h1, h2, Kd.C_below h3 hb⟩
        | 18, h => exact h
        | 19, h => exact h
        | 20, h => exact h
        | 21, h => exact h
        | 22, h => exact h
        | _ + 23, _ => trivial
      case step =>
        intro i o a w ho hd hs hf hb hdep
        have hi : i < 23 := (Array.getElem?_eq_some_iff.1 ho).1
        match i, hi, ho with
        | 0, _, ho =>
          simp only [List.getElem?_toArray, List.getElem?_cons_zero, List.getElem?_cons_succ, Option.some.injEq] at ho
          subst ho
          have e11 : a.eval (.tmp 11) = .nilIface := ev_of ((hf 11 (fun j hj => by show (if j = 22 then 6 else 53 + j) ≠ 11; (repeat' split) <;> omega)).trans rfl)
          exact reg_value (S := fun u_ w => u_ = .nilIface) (v := .nilIface) (w' := w) rfl (by simp only [execOp, e11]; go_simp) rfl (Below.refl _ _)
        | 1, _, ho =>
          simp only [List.getElem?_toArray, List.getElem?_cons_zero, List.getElem?_cons_succ, Option.some.injEq] at ho
          subst ho
          have t53 : a.tmps[53]? = some (.nilIface) := by obtain ⟨u_, h1, h2⟩ := hdep ⟨0, .data⟩ (by simp) rfl; rw [show u_ = .nilIface from h2] at h1; exact h1
          have e53 := ev_of t53
          exact reg_value (S := fun u_ w => u_ = .bool false) (v := .bool false) (w' := w) rfl (by simp only [execOp, e53]; go_simp) rfl (Below.refl _ _)
        | 2, _, ho =>
          simp only [List.getElem?_toArray, List.getElem?_cons_zero, List.getElem?_cons_succ, Option.some.injEq] at ho
          subst ho
          have t54 : a.tmps[54]? = some (.bool false) := by obtain ⟨u_, h1, h2⟩ := hdep ⟨1, .data⟩ (by simp) rfl; rw [show u_ = .bool false from h2] at h1; exact h1
          have e54 := ev_of t54
          exact reg_value (S := fun u_ w => u_ = .bool false) (v := .bool false) (w' := w) rfl (by simp only [execOp, e54]; go_simp) rfl (Below.refl _ _)
        | 3, _, ho =>
          simp only [List.getElem?_toArray, List.getElem?_cons_zero, List.getElem?_cons_succ, Option.some.injEq] at ho
          subst ho
          have e10 : a.eval (.tmp 10) = .pointer (some ⟨g_q, 0, none⟩) := ev_of ((hf 10 (fun j hj => by show (if j = 22 then 6 else 53 + j) ≠ 10; (repeat' split) <;> omega)).trans rfl)
          have t55 : a.tmps[55]? = some (.bool false) := by obtain ⟨u_, h1, h2⟩ := hdep ⟨2, .guard⟩ (by simp) rfl; rw [show u_ = .bool false from h2] at h1; exact h1
          have e55 := ev_of t55
          exact reg_value (S := fun u_ w => u_ = .agg (pg pr)) (v := .agg (pg pr)) (w' := w) (wanted_of 2 false false true t55 rfl rfl rfl) (run_page_load _ rfl g_q pr e10 (P_q.out.below hb)) rfl (Below.refl _ _)
        | 4, _, ho =>
          simp only [List.getElem?_toArray, List.getElem?_cons_zero, List.getElem?_cons_succ, Option.some.injEq] at ho
          subst ho
          have t56 : a.tmps[56]? = some (.agg (pg pr)) := by obtain ⟨u_, h1, h2⟩ := hdep ⟨3, .data⟩ (by simp) rfl; rw [show u_ = .agg (pg pr) from h2] at h1; exact h1
          have e56 := ev_of t56
          have t55 : a.tmps[55]? = some (.bool false) := by obtain ⟨u_, h1, h2⟩ := hdep ⟨2, .guard⟩ (by simp) rfl; rw [show u_ = .bool false from h2] at h1; exact h1
          have e55 := ev_of t55
          refine reg_call (S := fun u_ w => ∃ A c, u_ = .slice A ex.length c ∧ ex.length ≤ c ∧ Kd.C (Kd.int .u8) w A ex.length ex) (wanted_of 2 false false true t55 rfl rfl rfl) (reg_enters Try.func39 (by kernel_rfl) rfl #[.agg (pg pr)] rfl (by simp only [List.map_toArray, List.map_cons, List.map_nil, e56, e55])) ?_
          refine (encode_page pr w IPR.out LPR.out).mono ?_
          rintro e w' ⟨v0, rfl, ho, hbw⟩
          rw [← NE.out] at ho
          obtain ⟨A, c, he, hl, hC⟩ := Kd.R_reads ho
          exact ⟨_, rfl, ⟨A, c, he, hl, hC⟩, hbw⟩
        | 5, _, ho =>
          simp only [List.getElem?_toArray, List.getElem?_cons_zero, List.getElem?_cons_succ, Option.some.injEq] at ho
          subst ho
          obtain ⟨v4, t57, A4, c4, q4, l4, C4⟩ : ∃ v, a.tmps[57]? = some v ∧ ∃ A c, v = .slice A ex.length c ∧ ex.length ≤ c ∧ Kd.C (Kd.int .u8) w A ex.length ex := hdep ⟨4, .data⟩ (by simp) rfl
          subst q4
          have e57 := ev_of t57
          have t55 : a.tmps[55]? = some (.bool false) := by obtain ⟨u_, h1, h2⟩ := hdep ⟨2, .guard⟩ (by simp) rfl; rw [show u_ = .bool false from h2] at h1; exact h1
          have e55 := ev_of t55
          have hcv := Kd.C_string (P := Try.prog) (A := A4) (c := c4) Try.underlying22 Try.underlying5 Try.underlying9 C4
          exact reg_value (S := fun u_ w => u_ = .string (strOfNums ex)) (v := .string (strOfNums ex)) (w' := w) (wanted_of 2 false false true t55 rfl rfl rfl) (by simp only [execOp, e57, e55]; go_simp) rfl (Below.refl _ _)
        | 6, _, ho =>
          simp only [List.getElem?_toArray, List.getElem?_cons_zero, List.getElem?_cons_succ, Option.some.injEq] at ho
          subst ho
          have e2 : a.eval (.tmp 2) = .slice Ab lb.length cb := ev_of ((hf 2 (fun j hj => by show (if j = 22 then 6 else 53 + j) ≠ 2; (repeat' split) <;> omega)).trans rfl)
          have t55 : a.tmps[55]? = some (.bool false) := by obtain ⟨u_, h1, h2⟩ := hdep ⟨2, .guard⟩ (by simp) rfl; rw [show u_ = .bool false from h2] at h1; exact h1
          have e55 := ev_of t55
          exact reg_value (S := fun u_ w => u_ = .slice Ab lb.length cb) (v := .slice Ab lb.length cb) (w' := w) (wanted_of 2 false false true t55 rfl rfl rfl) (by simp only [execOp, e2, e55]; go_simp) rfl (Below.refl _ _)
        | 7, _, ho =>
          simp only [List.getElem?_toArray, List.getElem?_cons_zero, List.getElem?_cons_succ, Option.some.injEq] at ho
          subst ho
          have t59 : a.tmps[59]? = some (.slice Ab lb.length cb) := by obtain ⟨u_, h1, h2⟩ := hdep ⟨6, .data⟩ (by simp) rfl; rw [show u_ = .slice Ab lb.length cb from h2] at h1; exact h1
          have e59 := ev_of t59
          have t55 : a.tmps[55]? = some (.bool false) := by obtain ⟨u_, h1, h2⟩ := hdep ⟨2, .guard⟩ (by simp) rfl; rw [show u_ = .bool false from h2] at h1; exact h1
          have e55 := ev_of t55
          have hcv := Kd.C_string (P := Try.prog) (A := Ab) (c := cb) Try.underlying22 Try.underlying5 Try.underlying9 (Kd.C_below (Kd.C_below CBB.out HB.out) hb)
          exact reg_value (S := fun u_ w => u_ = .string (strOfNums lb)) (v := .string (strOfNums lb)) (w' := w) (wanted_of 2 false false true t55 rfl rfl rfl) (by simp only [execOp, e59, e55]; go_simp) rfl (Below.refl _ _)
        | 8, _, ho =>
          simp only [List.getElem?_toArray, List.getElem?_cons_zero, List.getElem?_cons_succ, Option.some.injEq] at ho
          subst ho
          have t58 : a.tmps[58]? = some (.string (strOfNums ex)) := by obtain ⟨u_, h1, h2⟩ := hdep ⟨5, .data⟩ (by simp) rfl; rw [show u_ = .string (strOfNums ex) from h2] at h1; exact h1
          have e58 := ev_of t58
          have t60 : a.tmps[60]? = some (.string (strOfNums lb)) := by obtain ⟨u_, h1, h2⟩ := hdep ⟨7, .data⟩ (by simp) rfl; rw [show u_ = .string (strOfNums lb) from h2] at h1; exact h1
          have e60 := ev_of t60
          have t55 : a.tmps[55]? = some (.bool false) := by obtain ⟨u_, h1, h2⟩ := hdep ⟨2, .guard⟩ (by simp) rfl; rw [show u_ = .bool false from h2] at h1; exact h1
          have e55 := ev_of t55
          exact reg_value (S := fun u_ w => u_ = .bool false) (v := .bool false) (w' := w) (wanted_of 2 false false true t55 rfl rfl rfl) (by simp only [execOp, e58, e60, e55]; go_simp; first | done | exact hse) rfl (Below.refl _ _)
        | 9, _, ho =>
          simp only [List.getElem?_toArray, List.getElem?_cons_zero, List.getElem?_cons_succ, Option.some.injEq] at ho
          subst ho
          have t55 : a.tmps[55]? = some (.bool false) := by obtain ⟨u_, h1, h2⟩ := hdep ⟨2, .data⟩ (by simp) rfl; rw [show u_ = .bool false from h2] at h1; exact h1
          have e55 := ev_of t55
          have t61 : a.tmps[61]? = some (.bool false) := by obtain ⟨u_, h1, h2⟩ := hdep ⟨8, .data⟩ (by simp) rfl; rw [show u_ = .bool false from h2] at h1; exact h1
          have e61 := ev_of t61
          exact reg_value (S := fun u_ w => u_ = .bool false) (v := .bool false) (w' := w) rfl (by simp only [execOp, e55, e61]; go_simp) rfl (Below.refl _ _)
        | 10, _, ho =>
          simp only [List.getElem?_toArray, List.getElem?_cons_zero, List.getElem?_cons_succ, Option.some.injEq] at ho
          subst ho
          have t62 : a.tmps[62]? = some (.bool false) := by obtain ⟨u_, h1, h2⟩ := hdep ⟨9, .data⟩ (by simp) rfl; rw [show u_ = .bool false from h2] at h1; exact h1
          have e62 := ev_of t62
          exact reg_value (S := fun u_ w => u_ = .bool false) (v := .bool false) (w' := w) rfl (by simp only [execOp, e62]; go_simp) rfl (Below.refl _ _)
        | 11, _, ho =>
          simp only [List.getElem?_toArray, List.getElem?_cons_zero, List.getElem?_cons_succ, Option.some.injEq] at ho
          subst ho
          have e10 : a.eval (.tmp 10) = .pointer (some ⟨g_q, 0, none⟩) := ev_of ((hf 10 (fun j hj => by show (if j = 22 then 6 else 53 + j) ≠ 10; (repeat' split) <;> omega)).trans rfl)
          have t63 : a.tmps[63]? = some (.bool false) := by obtain ⟨u_, h1, h2⟩ := hdep ⟨10, .guard⟩ (by simp) rfl; rw [show u_ = .bool false from h2] at h1; exact h1
          have e63 := ev_of t63
          exact reg_value (S := fun u_ w => u_ = .agg (pg pr)) (v := .agg (pg pr)) (w' := w) (wanted_of 10 false false true t63 rfl rfl rfl) (run_page_load _ rfl g_q pr e10 (P_q.out.below hb)) rfl (Below.refl _ _)
        | 12, _, ho =>
          simp only [List.getElem?_toArray, List.getElem?_cons_zero, List.getElem?_cons_succ, Option.some.injEq] at ho
          subst ho
          have t63 : a.tmps[63]? = some (.bool false) := by obtain ⟨u_, h1, h2⟩ := hdep ⟨10, .guard⟩ (by simp) rfl; rw [show u_ = .bool false from h2] at h1; exact h1
          have e63 := ev_of t63
          exact reg_value (S := fun u_ w => u_ = .agg (pg pr)) (v := .agg (pg pr)) (w' := w) (wanted_of 10 false false true t63 rfl rfl rfl) (run_page_blank rfl pr NPR.out) rfl (Below.refl _ _)
        | 13, _, ho =>
          simp only [List.getElem?_toArray, List.getElem?_cons_zero, List.getElem?_cons_succ, Option.some.injEq] at ho
          subst ho
          have t64 : a.tmps[64]? = some (.agg (pg pr)) := by obtain ⟨u_, h1, h2⟩ := hdep ⟨11, .data⟩ (by simp) rfl; rw [show u_ = .agg (pg pr) from h2] at h1; exact h1
          have e64 := ev_of t64
          have t65 : a.tmps[65]? = some (.agg (pg pr)) := by obtain ⟨u_, h1, h2⟩ := hdep ⟨12, .data⟩ (by simp) rfl; rw [show u_ = .agg (pg pr) from h2] at h1; exact h1
          have e65 := ev_of t65
          have t63 : a.tmps[63]? = some (.bool false) := by obtain ⟨u_, h1, h2⟩ := hdep ⟨10, .guard⟩ (by simp) rfl; rw [show u_ = .bool false from h2] at h1; exact h1
          have e63 := ev_of t63
          exact reg_value (S := fun u_ w => u_ = .bool true) (v := .bool true) (w' := w) (wanted_of 10 false false true t63 rfl rfl rfl) (run_page_eql _ _ rfl pr pr e64 e65 LPR.out LPR.out true (decide_eq_true rfl)) rfl (Below.refl _ _)
        | 14, _, ho =>
          simp only [List.getElem?_toArray, List.getElem?_cons_zero, List.getElem?_cons_succ, Option.some.injEq] at ho
          subst ho
          have t66 : a.tmps[66]? = some (.bool true) := by obtain ⟨u_, h1, h2⟩ := hdep ⟨13, .data⟩ (by simp) rfl; rw [show u_ = .bool true from h2] at h1; exact h1
          have e66 := ev_of t66
          have t63 : a.tmps[63]? = some (.bool false) := by obtain ⟨u_, h1, h2⟩ := hdep ⟨10, .guard⟩ (by simp) rfl; rw [show u_ = .bool false from h2] at h1; exact h1
          have e63 := ev_of t63
          exact reg_value (S := fun u_ w => u_ = .bool true) (v := .bool true) (w' := w) (wanted_of 10 false false true t63 rfl rfl rfl) (by simp only [execOp, e66, e63]; go_simp) rfl (Below.refl _ _)
        | 15, _, ho =>
          simp only [List.getElem?_toArray, List.getElem?_cons_zero, List.getElem?_cons_succ, Option.some.injEq] at ho
          subst ho
          have e2 : a.eval (.tmp 2) = .slice Ab lb.length cb := ev_of ((hf 2 (fun j hj => by show (if j = 22 then 6 else 53 + j) ≠ 2; (repeat' split) <;> omega)).trans rfl)
          have t67 : a.tmps[67]? = some (.bool true) := by obtain ⟨u_, h1, h2⟩ := hdep ⟨14, .guard⟩ (by simp) rfl; rw [show u_ = .bool true from h2] at h1; exact h1
          have e67 := ev_of t67
          exact reg_value (S := fun u_ w => u_ = .slice Ab lb.length cb) (v := .slice Ab lb.length cb) (w' := w) (wanted_of 14 true true true t67 rfl rfl rfl) (by simp only [execOp, e2, e67]; go_simp) rfl (Below.refl _ _)
        | 16, _, ho =>
          simp only [List.getElem?_toArray, List.getElem?_cons_zero, List.getElem?_cons_succ, Option.some.injEq] at ho
          subst ho
          have t68 : a.tmps[68]? = some (.slice Ab lb.length cb) := by obtain ⟨u_, h1, h2⟩ := hdep ⟨15, .data⟩ (by simp) rfl; rw [show u_ = .slice Ab lb.length cb from h2] at h1; exact h1
          have e68 := ev_of t68
          have t67 : a.tmps[67]? = some (.bool true) := by obtain ⟨u_, h1, h2⟩ := hdep ⟨14, .guard⟩ (by simp) rfl; rw [show u_ = .bool true from h2] at h1; exact h1
          have e67 := ev_of t67
          have hcv := Kd.C_string (P := Try.prog) (A := Ab) (c := cb) Try.underlying22 Try.underlying5 Try.underlying9 (Kd.C_below (Kd.C_below CBB.out HB.out) hb)
          exact reg_value (S := fun u_ w => u_ = .string (strOfNums lb)) (v := .string (strOfNums lb)) (w' := w) (wanted_of 14 true true true t67 rfl rfl rfl) (by simp only [execOp, e68, e67]; go_simp) rfl (Below.refl _ _)
        | 17, _, ho =>
          simp only [List.getElem?_toArray, List.getElem?_cons_zero, List.getElem?_cons_succ, Option.some.injEq] at ho
          subst ho
          have t67 : a.tmps[67]? = some (.bool true) := by obtain ⟨u_, h1, h2⟩ := hdep ⟨14, .guard⟩ (by simp) rfl; rw [show u_ = .bool true from h2] at h1; exact h1
          have e67 := ev_of t67
          refine reg_make512 (S := fun u_ w => ∃ A c, u_ = .slice A lb.length c ∧ lb.length ≤ c ∧ Kd.C (Kd.int .u8) w A lb.length lb) (wanted_of 14 true true true t67 rfl rfl rfl) _ _ rfl rfl rfl (fun A w1 hC => ?_)
          exact ⟨A, 512, by rw [LLB.out], by rw [LLB.out]; exact Nat.le_refl _, by rw [LLB.out, ZB.out]; exact hC⟩
        | 18, _, ho =>
          simp only [List.getElem?_toArray, List.getElem?_cons_zero, List.getElem?_cons_succ, Option.some.injEq] at ho
          subst ho
          obtain ⟨v17, t70, A17, c17, q17, l17, C17⟩ : ∃ v, a.tmps[70]? = some v ∧ ∃ A c, v = .slice A lb.length c ∧ lb.length ≤ c ∧ Kd.C (Kd.int .u8) w A lb.length lb := hdep ⟨17, .data⟩ (by simp) rfl
          subst q17
          have e70 := ev_of t70
          have t67 : a.tmps[67]? = some (.bool true) := by obtain ⟨u_, h1, h2⟩ := hdep ⟨14, .guard⟩ (by simp) rfl; rw [show u_ = .bool true from h2] at h1; exact h1
          have e67 := ev_of t67
          have hcv := Kd.C_string (P := Try.prog) (A := A17) (c := c17) Try.underlying22 Try.underlying5 Try.underlying9 C17
          exact reg_value (S := fun u_ w => u_ = .string (strOfNums lb)) (v := .string (strOfNums lb)) (w' := w) (wanted_of 14 true true true t67 rfl rfl rfl) (by simp only [execOp, e70, e67]; go_simp) rfl (Below.refl _ _)
        | 19, _, ho =>
          simp only [List.getElem?_toArray, List.getElem?_cons_zero, List.getElem?_cons_succ, Option.some.injEq] at ho
          subst ho
          have t69 : a.tmps[69]? = some (.string (strOfNums lb)) := by obtain ⟨u_, h1, h2⟩ := hdep ⟨16, .data⟩ (by simp) rfl; rw [show u_ = .string (strOfNums lb) from h2] at h1; exact h1
          have e69 := ev_of t69
          have t71 : a.tmps[71]? = some (.string (strOfNums lb)) := by obtain ⟨u_, h1, h2⟩ := hdep ⟨18, .data⟩ (by simp) rfl; rw [show u_ = .string (strOfNums lb) from h2] at h1; exact h1
          have e71 := ev_of t71
          have t67 : a.tmps[67]? = some (.bool true) := by obtain ⟨u_, h1, h2⟩ := hdep ⟨14, .guard⟩ (by simp) rfl; rw [show u_ = .bool true from h2] at h1; exact h1
          have e67 := ev_of t67
          exact reg_value (S := fun u_ w => u_ = .bool true) (v := .bool true) (w' := w) (wanted_of 14 true true true t67 rfl rfl rfl) (by simp only [execOp, e69, e71, e67]; go_simp) rfl (Below.refl _ _)
        | 20, _, ho =>
          simp only [List.getElem?_toArray, List.getElem?_cons_zero, List.getElem?_cons_succ, Option.some.injEq] at ho
          subst ho
          have t67 : a.tmps[67]? = some (.bool true) := by obtain ⟨u_, h1, h2⟩ := hdep ⟨14, .data⟩ (by simp) rfl; rw [show u_ = .bool true from h2] at h1; exact h1
          have e67 := ev_of t67
          have t72 : a.tmps[72]? = some (.bool true) := by obtain ⟨u_, h1, h2⟩ := hdep ⟨19, .data⟩ (by simp) rfl; rw [show u_ = .bool true from h2] at h1; exact h1
          have e72 := ev_of t72
          have t63 : a.tmps[63]? = some (.bool false) := by obtain ⟨u_, h1, h2⟩ := hdep ⟨10, .guard⟩ (by simp) rfl; rw [show u_ = .bool false from h2] at h1; exact h1
          have e63 := ev_of t63
          exact reg_value (S := fun u_ w => u_ = .bool true) (v := .bool true) (w' := w) (wanted_of 10 false false true t63 rfl rfl rfl) (by simp only [execOp, e67, e72, e63]; go_simp) rfl (Below.refl _ _)
        | 21, _, ho =>
          simp only [List.getElem?_toArray, List.getElem?_cons_zero, List.getElem?_cons_succ, Option.some.injEq] at ho
          subst ho
          have t63 : a.tmps[63]? = some (.bool false) := by obtain ⟨u_, h1, h2⟩ := hdep ⟨10, .data⟩ (by simp) rfl; rw [show u_ = .bool false from h2] at h1; exact h1
          have e63 := ev_of t63
          have t73 : a.tmps[73]? = some (.bool true) := by obtain ⟨u_, h1, h2⟩ := hdep ⟨20, .data⟩ (by simp) rfl; rw [show u_ = .bool true from h2] at h1; exact h1
          have e73 := ev_of t73
          exact reg_value (S := fun u_ w => u_ = .bool true) (v := .bool true) (w' := w) rfl (by simp only [execOp, e63, e73]; go_simp) rfl (Below.refl _ _)
        | 22, _, ho =>
          simp only [List.getElem?_toArray, List.getElem?_cons_zero, List.getElem?_cons_succ, Option.some.injEq] at ho
          subst ho
          have t74 : a.tmps[74]? = some (.bool true) := by obtain ⟨u_, h1, h2⟩ := hdep ⟨21, .data⟩ (by simp) rfl; rw [show u_ = .bool true from h2] at h1; exact h1
          have e74 := ev_of t74
          exact reg_value (S := fun u_ w => u_ = .bool true) (v := .bool true) (w' := w) rfl (by simp only [execOp, e74]; go_simp) rfl (Below.refl _ _)
      case hend =>
        intro vs w hb hall
        have s0 : vs 0 = .nilIface := hall 0 (by omega)
        have s1 : vs 1 = .bool false := hall 1 (by omega)
        have s2 : vs 2 = .bool false := hall 2 (by omega)
        have s3 : vs 3 = .agg (pg pr) := hall 3 (by omega)
        obtain ⟨A4, c4, s4, l4, C4⟩ : ∃ A c, vs 4 = .slice A ex.length c ∧ ex.length ≤ c ∧ Kd.C (Kd.int .u8) w A ex.length ex := hall 4 (by omega)
        have s5 : vs 5 = .string (strOfNums ex) := hall 5 (by omega)
        have s6 : vs 6 = .slice Ab lb.length cb := hall 6 (by omega)
        have s7 : vs 7 = .string (strOfNums lb) := hall 7 (by omega)
        have s8 : vs 8 = .bool false := hall 8 (by omega)
        have s9 : vs 9 = .bool false := hall 9 (by omega)
        have s10 : vs 10 = .bool false := hall 10 (by omega)
        have s11 : vs 11 = .agg (pg pr) := hall 11 (by omega)
        have s12 : vs 12 = .agg (pg pr) := hall 12 (by omega)
        have s13 : vs 13 = .bool true := hall 13 (by omega)
        have s14 : vs 14 = .bool true := hall 14 (by omega)
        have s15 : vs 15 = .slice Ab lb.length cb := hall 15 (by omega)
        have s16 : vs 16 = .string (strOfNums lb) := hall 16 (by omega)
        obtain ⟨A17, c17, s17, l17, C17⟩ : ∃ A c, vs 17 = .slice A lb.length c ∧ lb.length ≤ c ∧ Kd.C (Kd.int .u8) w A lb.length lb := hall 17 (by omega)
        have s18 : vs 18 = .string (strOfNums lb) := hall 18 (by omega)
        have s19 : vs 19 = .bool true := hall 19 (by omega)
        have s20 : vs 20 = .bool true := hall 20 (by omega)
        have s21 : vs 21 = .bool true := hall 21 (by omega)
        have s22 : vs 22 = .bool true := hall 22 (by omega)
        simp only [fillN, Act.put, reduceIte, Nat.reduceEqDiff, Nat.reduceAdd, s0, s1, s2, s3, s4, s5, s6, s7, s8, s9, s10, s11, s12, s13, s14, s15, s16, s17, s18, s19, s20, s21, s22, List.setIfInBounds_toArray, List.set_cons_zero, List.set_cons_succ, Nat.reduceAdd]
        go_wp2
        go_ret
        exact ⟨rfl, below_step HB.out hb⟩
    · subst h
      have NE := Aside0.mk he.symm
      have IPR := Aside0.mk hi
      clear hi he
      refine region_mem (n := 23) (by kernel_rfl) rfl (fun i => if i = 22 then 6 else 53 + i) ?hN (fun i j hi_ hj_ h => by have h' : (if i = 22 then 6 else 53 + i) = (if j = 22 then 6 else 53 + j) := h; (repeat' split at h') <;> omega) (fun i hi => by show (if i = 22 then 6 else 53 + i) < _; (repeat' split) <;> (simp; try omega)) ?hdag (fun i u_ w => match i with | 0 => u_ = .nilIface | 1 => u_ = .bool false | 2 => u_ = .bool false | 3 => u_ = .agg (pg pr) | 4 => ∃ A c, u_ = .slice A lb.length c ∧ lb.length ≤ c ∧ Kd.C (Kd.int .u8) w A lb.length lb | 5 => u_ = .string (strOfNums lb) | 6 => u_ = .slice Ab lb.length cb | 7 => u_ = .string (strOfNums lb) | 8 => u_ = .bool true | 9 => u_ = .bool true | 10 => u_ = .bool true | 11 => u_ = undef | 12 => u_ = undef | 13 => u_ = undef | 14 => u_ = undef | 15 => u_ = undef | 16 => u_ = undef | 17 => u_ = undef | 18 => u_ = undef | 19 => u_ = undef | 20 => u_ = undef | 21 => u_ = .bool true | 22 => u_ = .bool true | _ => True) ?hS ?step ?hend
      case hN =>
        intro i o ho
        have hi : i < 23 := (Array.getElem?_eq_some_iff.1 ho).1
        match i, hi, ho with
        | 0, _, ho => simp only [List.getElem?_toArray, List.getElem?_cons_zero, List.getElem?_cons_succ, Option.some.injEq] at ho; subst ho; rfl
        | 1, _, ho => simp only [List.getElem?_toArray, List.getElem?_cons_zero, List.getElem?_cons_succ, Option.some.injEq] at ho; subst ho; rfl
        | 2, _, ho => simp only [List.getElem?_toArray, List.getElem?_cons_zero, List.getElem?_cons_succ, Option.some.injEq] at ho; subst ho; rfl
        | 3, _, ho => simp only [List.getElem?_toArray, List.getElem?_cons_zero, List.getElem?_cons_succ, Option.some.injEq] at ho; subst ho; rfl
        | 4, _, ho => simp only [List.getElem?_toArray, List.getElem?_cons_zero, List.getElem?_cons_succ, Option.some.injEq] at ho; subst ho; rfl
        | 5, _, ho => simp only [List.getElem?_toArray, List.getElem?_cons_zero, List.getElem?_cons_succ, Option.some.injEq] at ho; subst ho; rfl
        | 6, _, ho => simp only [List.getElem?_toArray, List.getElem?_cons_zero, List.getElem?_cons_succ, Option.some.injEq] at ho; subst ho; rfl
        | 7, _, ho => simp only [List.getElem?_toArray, List.getElem?_cons_zero, List.getElem?_cons_succ, Option.some.injEq] at ho; subst ho; rfl
        | 8, _, ho => simp only [List.getElem?_toArray, List.getElem?_cons_zero, List.getElem?_cons_succ, Option.some.injEq] at ho; subst ho; rfl
        | 9, _, ho => simp only [List.getElem?_toArray, List.getElem?_cons_zero, List.getElem?_cons_succ, Option.some.injEq] at ho; subst ho; rfl
        | 10, _, ho => simp only [List.getElem?_toArray, List.getElem?_cons_zero, List.getElem?_cons_succ, Option.some.injEq] at ho; subst ho; rfl
        | 11, _, ho => simp only [List.getElem?_toArray, List.getElem?_cons_zero, List.getElem?_cons_succ, Option.some.injEq] at ho; subst ho; rfl
        | 12, _, ho => simp only [List.getElem?_toArray, List.getElem?_cons_zero, List.getElem?_cons_succ, Option.some.injEq] at ho; subst ho; rfl
        | 13, _, ho => simp only [List.getElem?_toArray, List.getElem?_cons_zero, List.getElem?_cons_succ, Option.some.injEq] at ho; subst ho; rfl
        | 14, _, ho => simp only [List.getElem?_toArray, List.getElem?_cons_zero, List.getElem?_cons_succ, Option.some.injEq] at ho; subst ho; rfl
        | 15, _, ho => simp only [List.getElem?_toArray, List.getElem?_cons_zero, List.getElem?_cons_succ, Option.some.injEq] at ho; subst ho; rfl
        | 16, _, ho => simp only [List.getElem?_toArray, List.getElem?_cons_zero, List.getElem?_cons_succ, Option.some.injEq] at ho; subst ho; rfl
        | 17, _, ho => simp only [List.getElem?_toArray, List.getElem?_cons_zero, List.getElem?_cons_succ, Option.some.injEq] at ho; subst ho; rfl
        | 18, _, ho => simp only [List.getElem?_toArray, List.getElem?_cons_zero, List.getElem?_cons_succ, Option.some.injEq] at ho; subst ho; rfl
        | 19, _, ho => simp only [List.getElem?_toArray, List.getElem?_cons_zero, List.getElem?_cons_succ, Option.some.injEq] at ho; subst ho; rfl
        | 20, _, ho => simp only [List.getElem?_toArray, List.getElem?_cons_zero, List.getElem?_cons_succ, Option.some.injEq] at ho; subst ho; rfl
        | 21, _, ho => simp only [List.getElem?_toArray, List.getElem?_cons_zero, List.getElem?_cons_succ, Option.some.injEq] at ho; subst ho; rfl
        | 22, _, ho => simp only [List.getElem?_toArray, List.getElem?_cons_zero, List.getElem?_cons_succ, Option.some.injEq] at ho; subst ho; rfl
      case hdag =>
        intro i o ho
        have hi : i < 23 := (Array.getElem?_eq_some_iff.1 ho).1
        match i, hi, ho with
        | 0, _, ho => simp only [List.getElem?_toArray, List.getElem?_cons_zero, List.getElem?_cons_succ, Option.some.injEq] at ho; subst ho; decide
        | 1, _, ho => simp only [List.getElem?_toArray, List.getElem?_cons_zero, List.getElem?_cons_succ, Option.some.injEq] at ho; subst ho; decide
        | 2, _, ho => simp only [List.getElem?_toArray, List.getElem?_cons_zero, List.getElem?_cons_succ, Option.some.injEq] at ho; subst ho; decide
        | 3, _, ho => simp only [List.getElem?_toArray, List.getElem?_cons_zero, List.getElem?_cons_succ, Option.some.injEq] at ho; subst ho; decide
        | 4, _, ho => simp only [List.getElem?_toArray, List.getElem?_cons_zero, List.getElem?_cons_succ, Option.some.injEq] at ho; subst ho; decide
        | 5, _, ho => simp only [List.getElem?_toArray, List.getElem?_cons_zero, List.getElem?_cons_succ, Option.some.injEq] at ho; subst ho; decide
        | 6, _, ho => simp only [List.getElem?_toArray, List.getElem?_cons_zero, List.getElem?_cons_succ, Option.some.injEq] at ho; subst ho; decide
        | 7, _, ho => simp only [List.getElem?_toArray, List.getElem?_cons_zero, List.getElem?_cons_succ, Option.some.injEq] at ho; subst ho; decide
        | 8, _, ho => simp only [List.getElem?_toArray, List.getElem?_cons_zero, List.getElem?_cons_succ, Option.some.injEq] at ho; subst ho; decide
        | 9, _, ho => simp only [List.getElem?_toArray, List.getElem?_cons_zero, List.getElem?_cons_succ, Option.some.injEq] at ho; subst ho; decide
        | 10, _, ho => simp only [List.getElem?_toArray, List.getElem?_cons_zero, List.getElem?_cons_succ, Option.some.injEq] at ho; subst ho; decide
        | 11, _, ho => simp only [List.getElem?_toArray, List.getElem?_cons_zero, List.getElem?_cons_succ, Option.some.injEq] at ho; subst ho; decide
        | 12, _, ho => simp only [List.getElem?_toArray, List.getElem?_cons_zero, List.getElem?_cons_succ, Option.some.injEq] at ho; subst ho; decide
        | 13, _, ho => simp only [List.getElem?_toArray, List.getElem?_cons_zero, List.getElem?_cons_succ, Option.some.injEq] at ho; subst ho; decide
        | 14, _, ho => simp only [List.getElem?_toArray, List.getElem?_cons_zero, List.getElem?_cons_succ, Option.some.injEq] at ho; subst ho; decide
        | 15, _, ho => simp only [List.getElem?_toArray, List.getElem?_cons_zero, List.getElem?_cons_succ, Option.some.injEq] at ho; subst ho; decide
        | 16, _, ho => simp only [List.getElem?_toArray, List.getElem?_cons_zero, List.getElem?_cons_succ, Option.some.injEq] at ho; subst ho; decide
        | 17, _, ho => simp only [List.getElem?_toArray, List.getElem?_cons_zero, List.getElem?_cons_succ, Option.some.injEq] at ho; subst ho; decide
        | 18, _, ho => simp only [List.getElem?_toArray, List.getElem?_cons_zero, List.getElem?_cons_succ, Option.some.injEq] at ho; subst ho; decide
        | 19, _, ho => simp only [List.getElem?_toArray, List.getElem?_cons_zero, List.getElem?_cons_succ, Option.some.injEq] at ho; subst ho; decide
        | 20, _, ho => simp only [List.getElem?_toArray, List.getElem?_cons_zero, List.getElem?_cons_succ, Option.some.injEq] at ho; subst ho; decide
        | 21, _, ho => simp only [List.getElem?_toArray, List.getElem?_cons_zero, List.getElem?_cons_succ, Option.some.injEq] at ho; subst ho; decide
        | 22, _, ho => simp only [List.getElem?_toArray, List.getElem?_cons_zero, List.getElem?_cons_succ, Option.some.injEq] at ho; subst ho; decide
      case hS =>
        intro i u_ w w' h hb
        match i, h with
        | 0, h => exact h
        | 1, h => exact h
        | 2, h => exact h
        | 3, h => exact h
        | 4, ⟨A, c, h1, h2, h3⟩ => exact ⟨A, c, h1, h2, Kd.C_below h3 hb⟩
        | 5, h => exact h
        | 6, h => exact h
        | 7, h => exact h
        | 8, h => exact h
        | 9, h => exact h
        | 10, h => exact h
        | 11, h => exact h
        | 12, h => exact h
        | 13, h => exact h
        | 14, h => exact h
        | 15, h => exact h
        | 16, h => exact h
        | 17, h => exact h
        | 18, h => exact h
        | 19, h => exact h
        | 20, h => exact h
        | 21, h => exact h
        | 22, h => exact h
        | _ + 23, _ => trivial
      case step =>
        intro i o a w ho hd hs hf hb hdep
        have hi : i < 23 := (Array.getElem?_eq_some_iff.1 ho).1
        match i, hi, ho with
        | 0, _, ho =>
          simp only [List.getElem?_toArray, List.getElem?_cons_zero, List.getElem?_cons_succ, Option.some.injEq] at ho
          subst ho
          have e11 : a.eval (.tmp 11) = .nilIface := ev_of ((hf 11 (fun j hj => by show (if j = 22 then 6 else 53 + j) ≠ 11; (repeat' split) <;> omega)).trans rfl)
          exact reg_value (S := fun u_ w => u_ = .nilIface) (v := .nilIface) (w' := w) rfl (by simp only [execOp, e11]; go_simp) rfl (Below.refl _ _)
        | 1, _, ho =>
          simp only [List.getElem?_toArray, List.getElem?_cons_zero, List.getElem?_cons_succ, Option.some.injEq] at ho
          subst ho
          have t53 : a.tmps[53]? = some (.nilIface) := by obtain ⟨u_, h1, h2⟩ := hdep ⟨0, .data⟩ (by simp) rfl; rw [show u_ = .nilIface from h2] at h1; exact h1
          have e53 := ev_of t53
          exact reg_value (S := fun u_ w => u_ = .bool false) (v := .bool false) (w' := w) rfl (by simp only [execOp, e53]; go_simp) rfl (Below.refl _ _)
        | 2, _, ho =>
          simp only [List.getElem?_toArray, List.getElem?_cons_zero, List.getElem?_cons_succ, Option.some.injEq] at ho
          subst ho
          have t54 : a.tmps[54]? = some (.bool false) := by obtain ⟨u_, h1, h2⟩ := hdep ⟨1, .data⟩ (by simp) rfl; rw [show u_ = .bool false from h2] at h1; exact h1
          have e54 := ev_of t54
          exact reg_value (S := fun u_ w => u_ = .bool false) (v := .bool false) (w' := w) rfl (by simp only [execOp, e54]; go_simp) rfl (Below.refl _ _)
        | 3, _, ho =>
          simp only [List.getElem?_toArray, List.getElem?_cons_zero, List.getElem?_cons_succ, Option.some.injEq] at ho
          subst ho
          have e10 : a.eval (.tmp 10) = .pointer (some ⟨g_q, 0, none⟩) := ev_of ((hf 10 (fun j hj => by show (if j = 22 then 6 else 53 + j) ≠ 10; (repeat' split) <;> omega)).trans rfl)
          have t55 : a.tmps[55]? = some (.bool false) := by obtain ⟨u_, h1, h2⟩ := hdep ⟨2, .guard⟩ (by simp) rfl; rw [show u_ = .bool false from h2] at h1; exact h1
          have e55 := ev_of t55
          exact reg_value (S := fun u_ w => u_ = .agg (pg pr)) (v := .agg (pg pr)) (w' := w) (wanted_of 2 false false true t55 rfl rfl rfl) (run_page_load _ rfl g_q pr e10 (P_q.out.below hb)) rfl (Below.refl _ _)
        | 4, _, ho =>
          simp only [List.getElem?_toArray, List.getElem?_cons_zero, List.getElem?_cons_succ, Option.some.injEq] at ho
          subst ho
          have t56 : a.tmps[56]? = some (.agg (pg pr)) := by obtain ⟨u_, h1, h2⟩ := hdep ⟨3, .data⟩ (by simp) rfl; rw [show u_ = .agg (pg pr) from h2] at h1; exact h1
          have e56 := ev_of t56
          have t55 : a.tmps[55]? = some (.bool false) := by obtain ⟨u_, h1, h2⟩ := hdep ⟨2, .guard⟩ (by simp) rfl; rw [show u_ = .bool false from h2] at h1; exact h1
          have e55 := ev_of t55
          refine reg_call (S := fun u_ w => ∃ A c, u_ = .slice A lb.length c ∧ lb.length ≤ c ∧ Kd.C (Kd.int .u8) w A lb.length lb) (wanted_of 2 false false true t55 rfl rfl rfl) (reg_enters Try.func39 (by kernel_rfl) rfl #[.agg (pg pr)] rfl (by simp only [List.map_toArray, List.map_cons, List.map_nil, e56, e55])) ?_
          refine (encode_page pr w IPR.out LPR.out).mono ?_
          rintro e w' ⟨v0, rfl, ho, hbw⟩
          rw [← NE.out] at ho
          obtain ⟨A, c, he, hl, hC⟩ := Kd.R_reads ho
          exact ⟨_, rfl, ⟨A, c, he, hl, hC⟩, hbw⟩
        | 5, _, ho =>
          simp only [List.getElem?_toArray, List.getElem?_cons_zero, List.getElem?_cons_succ, Option.some.injEq] at ho
          subst ho
          obtain ⟨v4, t57, A4, c4, q4, l4, C4⟩ : ∃ v, a.tmps[57]? = some v ∧ ∃ A c, v = .slice A lb.length c ∧ lb.length ≤ c ∧ Kd.C (Kd.int .u8) w A lb.length lb := hdep ⟨4, .data⟩ (by simp) rfl
          subst q4
          have e57 := ev_of t57
          have t55 : a.tmps[55]? = some (.bool false) := by obtain ⟨u_, h1, h2⟩ := hdep ⟨2, .guard⟩ (by simp) rfl; rw [show u_ = .bool false from h2] at h1; exact h1
          have e55 := ev_of t55
          have hcv := Kd.C_string (P := Try.prog) (A := A4) (c := c4) Try.underlying22 Try.underlying5 Try.underlying9 C4
          exact reg_value (S := fun u_ w => u_ = .string (strOfNums lb)) (v := .string (strOfNums lb)) (w' := w) (wanted_of 2 false false true t55 rfl rfl rfl) (by simp only [execOp, e57, e55]; go_simp) rfl (Below.refl _ _)
        | 6, _, ho =>
          simp only [List.getElem?_toArray, List.getElem?_cons_zero, List.getElem?_cons_succ, Option.some.injEq] at ho
          subst ho
          have e2 : a.eval (.tmp 2) = .slice Ab lb.length cb := ev_of ((hf 2 (fun j hj => by show (if j = 22 then 6 else 53 + j) ≠ 2; (repeat' split) <;> omega)).trans rfl)
          have t55 : a.tmps[55]? = some (.bool false) := by obtain ⟨u_, h1, h2⟩ := hdep ⟨2, .guard⟩ (by simp) rfl; rw [show u_ = .bool false from h2] at h1; exact h1
          have e55 := ev_of t55
          exact reg_value (S := fun u_ w => u_ = .slice Ab lb.length cb) (v := .slice Ab lb.length cb) (w' := w) (wanted_of 2 false false true t55 rfl rfl rfl) (by simp only [execOp, e2, e55]; go_simp) rfl (Below.refl _ _)
        | 7, _, ho =>
          simp only [List.getElem?_toArray, List.getElem?_cons_zero, List.getElem?_cons_succ, Option.some.injEq] at ho
          subst ho
          have t59 : a.tmps[59]? = some (.slice Ab lb.length cb) := by obtain ⟨u_, h1, h2⟩ := hdep ⟨6, .data⟩ (by simp) rfl; rw [show u_ = .slice Ab lb.length cb from h2] at h1; exact h1
          have e59 := ev_of t59
          have t55 : a.tmps[55]? = some (.bool false) := by obtain ⟨u_, h1, h2⟩ := hdep ⟨2, .guard⟩ (by simp) rfl; rw [show u_ = .bool false from h2] at h1; exact h1
          have e55 := ev_of t55
          have hcv := Kd.C_string (P := Try.prog) (A := Ab) (c := cb) Try.underlying22 Try.underlying5 Try.underlying9 (Kd.C_below (Kd.C_below CBB.out HB.out) hb)
          exact reg_value (S := fun u_ w => u_ = .string (strOfNums lb)) (v := .string (strOfNums lb)) (w' := w) (wanted_of 2 false false true t55 rfl rfl rfl) (by simp only [execOp, e59, e55]; go_simp) rfl (Below.refl _ _)
        | 8, _, ho =>
          simp only [List.getElem?_toArray, List.getElem?_cons_zero, List.getElem?_cons_succ, Option.some.injEq] at ho
          subst ho
          have t58 : a.tmps[58]? = some (.string (strOfNums lb)) := by obtain ⟨u_, h1, h2⟩ := hdep ⟨5, .data⟩ (by simp) rfl; rw [show u_ = .string (strOfNums lb) from h2] at h1; exact h1
          have e58 := ev_of t58
          have t60 : a.tmps[60]? = some (.string (strOfNums lb)) := by obtain ⟨u_, h1, h2⟩ := hdep ⟨7, .data⟩ (by simp) rfl; rw [show u_ = .string (strOfNums lb) from h2] at h1; exact h1
          have e60 := ev_of t60
          have t55 : a.tmps[55]? = some (.bool false) := by obtain ⟨u_, h1, h2⟩ := hdep ⟨2, .guard⟩ (by simp) rfl; rw [show u_ = .bool false from h2] at h1; exact h1
          have e55 := ev_of t55
          exact reg_value (S := fun u_ w => u_ = .bool true) (v := .bool true) (w' := w) (wanted_of 2 false false true t55 rfl rfl rfl) (by simp only [execOp, e58, e60, e55]; go_simp) rfl (Below.refl _ _)
        | 9, _, ho =>
          simp only [List.getElem?_toArray, List.getElem?_cons_zero, List.getElem?_cons_succ, Option.some.injEq] at ho
          subst ho
          have t55 : a.tmps[55]? = some (.bool false) := by obtain ⟨u_, h1, h2⟩ := hdep ⟨2, .data⟩ (by simp) rfl; rw [show u_ = .bool false from h2] at h1; exact h1
          have e55 := ev_of t55
          have t61 : a.tmps[61]? = some (.bool true) := by obtain ⟨u_, h1, h2⟩ := hdep ⟨8, .data⟩ (by simp) rfl; rw [show u_ = .bool true from h2] at h1; exact h1
          have e61 := ev_of t61
          exact reg_value (S := fun u_ w => u_ = .bool true) (v := .bool true) (w' := w) rfl (by simp only [execOp, e55, e61]; go_simp) rfl (Below.refl _ _)
        | 10, _, ho =>
          simp only [List.getElem?_toArray, List.getElem?_cons_zero, List.getElem?_cons_succ, Option.some.injEq] at ho
          subst ho
          have t62 : a.tmps[62]? = some (.bool true) := by obtain ⟨u_, h1, h2⟩ := hdep ⟨9, .data⟩ (by simp) rfl; rw [show u_ = .bool true from h2] at h1; exact h1
          have e62 := ev_of t62
          exact reg_value (S := fun u_ w => u_ = .bool true) (v := .bool true) (w' := w) rfl (by simp only [execOp, e62]; go_simp) rfl (Below.refl _ _)
        | 11, _, ho =>
          simp only [List.getElem?_toArray, List.getElem?_cons_zero, List.getElem?_cons_succ, Option.some.injEq] at ho
          subst ho
          have t63 : a.tmps[63]? = some (.bool true) := by obtain ⟨u_, h1, h2⟩ := hdep ⟨10, .guard⟩ (by simp) rfl; rw [show u_ = .bool true from h2] at h1; exact h1
          have e63 := ev_of t63
          exact reg_skip (S := fun u_ w => u_ = undef) (wanted_of 10 false true false t63 rfl rfl rfl) rfl
        | 12, _, ho =>
          simp only [List.getElem?_toArray, List.getElem?_cons_zero, List.getElem?_cons_succ, Option.some.injEq] at ho
          subst ho
          have t63 : a.tmps[63]? = some (.bool true) := by obtain ⟨u_, h1, h2⟩ := hdep ⟨10, .guard⟩ (by simp) rfl; rw [show u_ = .bool true from h2] at h1; exact h1
          have e63 := ev_of t63
          exact reg_skip (S := fun u_ w => u_ = undef) (wanted_of 10 false true false t63 rfl rfl rfl) rfl
        | 13, _, ho =>
          simp only [List.getElem?_toArray, List.getElem?_cons_zero, List.getElem?_cons_succ, Option.some.injEq] at ho
          subst ho
          have t63 : a.tmps[63]? = some (.bool true) := by obtain ⟨u_, h1, h2⟩ := hdep ⟨10, .guard⟩ (by simp) rfl; rw [show u_ = .bool true from h2] at h1; exact h1
          have e63 := ev_of t63
          exact reg_skip (S := fun u_ w => u_ = undef) (wanted_of 10 false true false t63 rfl rfl rfl) rfl
        | 14, _, ho =>
          simp only [List.getElem?_toArray, List.getElem?_cons_zero, List.getElem?_cons_succ, Option.some.injEq] at ho
          subst ho
          have t63 : a.tmps[63]? = some (.bool true) := by obtain ⟨u_, h1, h2⟩ := hdep ⟨10, .guard⟩ (by simp) rfl; rw [show u_ = .bool true from h2] at h1; exact h1
          have e63 := ev_of t63
          exact reg_skip (S := fun u_ w => u_ = undef) (wanted_of 10 false true false t63 rfl rfl rfl) rfl
        | 15, _, ho =>
          simp only [List.getElem?_toArray, List.getElem?_cons_zero, List.getElem?_cons_succ, Option.some.injEq] at ho
          subst ho
          have t67 : a.tmps[67]? = some (undef) := by obtain ⟨u_, h1, h2⟩ := hdep ⟨14, .guard⟩ (by simp) rfl; rw [show u_ = undef from h2] at h1; exact h1
          have e67 := ev_of t67
          exact reg_skip (S := fun u_ w => u_ = undef) (unwanted_of 14 true t67 rfl rfl) rfl
        | 16, _, ho =>
          simp only [List.getElem?_toArray, List.getElem?_cons_zero, List.getElem?_cons_succ, Option.some.injEq] at ho
          subst ho
          have t67 : a.tmps[67]? = some (undef) := by obtain ⟨u_, h1, h2⟩ := hdep ⟨14, .guard⟩ (by simp) rfl; rw [show u_ = undef from h2] at h1; exact h1
          have e67 := ev_of t67
          exact reg_skip (S := fun u_ w => u_ = undef) (unwanted_of 14 true t67 rfl rfl) rfl
        | 17, _, ho =>
          simp only [List.getElem?_toArray, List.getElem?_cons_zero, List.getElem?_cons_succ, Option.some.injEq] at ho
          subst ho
          have t67 : a.tmps[67]? = some (undef) := by obtain ⟨u_, h1, h2⟩ := hdep ⟨14, .guard⟩ (by simp) rfl; rw [show u_ = undef from h2] at h1; exact h1
          have e67 := ev_of t67
          exact reg_skip (S := fun u_ w => u_ = undef) (unwanted_of 14 true t67 rfl rfl) rfl
        | 18, _, ho =>
          simp only [List.getElem?_toArray, List.getElem?_cons_zero, List.getElem?_cons_succ, Option.some.injEq] at ho
          subst ho
          have t67 : a.tmps[67]? = some (undef) := by obtain ⟨u_, h1, h2⟩ := hdep ⟨14, .guard⟩ (by simp) rfl; rw [show u_ = undef from h2] at h1; exact h1
          have e67 := ev_of t67
          exact reg_skip (S := fun u_ w => u_ = undef) (unwanted_of 14 true t67 rfl rfl) rfl
        | 19, _, ho =>
          simp only [List.getElem?_toArray, List.getElem?_cons_zero, List.getElem?_cons_succ, Option.some.injEq] at ho
          subst ho
          have t67 : a.tmps[67]? = some (undef) := by obtain ⟨u_, h1, h2⟩ := hdep ⟨14, .guard⟩ (by simp) rfl; rw [show u_ = undef from h2] at h1; exact h1
          have e67 := ev_of t67
          exact reg_skip (S := fun u_ w => u_ = undef) (unwanted_of 14 true t67 rfl rfl) rfl
        | 20, _, ho =>
          simp only [List.getElem?_toArray, List.getElem?_cons_zero, List.getElem?_cons_succ, Option.some.injEq] at ho
          subst ho
          have t63 : a.tmps[63]? = some (.bool true) := by obtain ⟨u_, h1, h2⟩ := hdep ⟨10, .guard⟩ (by simp) rfl; rw [show u_ = .bool true from h2] at h1; exact h1
          have e63 := ev_of t63
          exact reg_skip (S := fun u_ w => u_ = undef) (wanted_of 10 false true false t63 rfl rfl rfl) rfl
        | 21, _, ho =>
          simp only [List.getElem?_toArray, List.getElem?_cons_zero, List.getElem?_cons_succ, Option.some.injEq] at ho
          subst ho
          have t63 : a.tmps[63]? = some (.bool true) := by obtain ⟨u_, h1, h2⟩ := hdep ⟨10, .data⟩ (by simp) rfl; rw [show u_ = .bool true from h2] at h1; exact h1
          have e63 := ev_of t63
          have t73 : a.tmps[73]? = some (undef) := by obtain ⟨u_, h1, h2⟩ := hdep ⟨20, .data⟩ (by simp) rfl; rw [show u_ = undef from h2] at h1; exact h1
          have e73 := ev_of t73
          exact reg_value (S := fun u_ w => u_ = .bool true) (v := .bool true) (w' := w) rfl (by simp only [execOp, e63, e73]; go_simp) rfl (Below.refl _ _)
        | 22, _, ho =>
          simp only [List.getElem?_toArray, List.getElem?_cons_zero, List.getElem?_cons_succ, Option.some.injEq] at ho
          subst ho
          have t74 : a.tmps[74]? = some (.bool true) := by obtain ⟨u_, h1, h2⟩ := hdep ⟨21, .data⟩ (by simp) rfl; rw [show u_ = .bool true from h2] at h1; exact h1
          have e74 := ev_of t74
          exact reg_value (S := fun u_ w => u_ = .bool true) (v := .bool true) (w' := w) rfl (by simp only [execOp, e74]; go_simp) rfl (Below.refl _ _)
      case hend =>
        intro vs w hb hall
        have s0 : vs 0 = .nilIface := hall 0 (by omega)
        have s1 : vs 1 = .bool false := hall 1 (by omega)
        have s2 : vs 2 = .bool false := hall 2 (by omega)
        have s3 : vs 3 = .agg (pg pr) := hall 3 (by omega)
        obtain ⟨A4, c4, s4, l4, C4⟩ : ∃ A c, vs 4 = .slice A lb.length c ∧ lb.length ≤ c ∧ Kd.C (Kd.int .u8) w A lb.length lb := hall 4 (by omega)
        have s5 : vs 5 = .string (strOfNums lb) := hall 5 (by omega)
        have s6 : vs 6 = .slice Ab lb.length cb := hall 6 (by omega)
        have s7 : vs 7 = .string (strOfNums lb) := hall 7 (by omega)
        have s8 : vs 8 = .bool true := hall 8 (by omega)
        have s9 : vs 9 = .bool true := hall 9 (by omega)
        have s10 : vs 10 = .bool true := hall 10 (by omega)
        have s11 : vs 11 = undef := hall 11 (by omega)
        have s12 : vs 12 = undef := hall 12 (by omega)
        have s13 : vs 13 = undef := hall 13 (by omega)
        have s14 : vs 14 = undef := hall 14 (by omega)
        have s15 : vs 15 = undef := hall 15 (by omega)
        have s16 : vs 16 = undef := hall 16 (by omega)
        have s17 : vs 17 = undef := hall 17 (by omega)
        have s18 : vs 18 = undef := hall 18 (by omega)
        have s19 : vs 19 = undef := hall 19 (by omega)
        have s20 : vs 20 = undef := hall 20 (by omega)
        have s21 : vs 21 = .bool true := hall 21 (by omega)
        have s22 : vs 22 = .bool true := hall 22 (by omega)
        simp only [fillN, Act.put, reduceIte, Nat.reduceEqDiff, Nat.reduceAdd, s0, s1, s2, s3, s4, s5, s6, s7, s8, s9, s10, s11, s12, s13, s14, s15, s16, s17, s18, s19, s20, s21, s22, List.setIfInBounds_toArray, List.set_cons_zero, List.set_cons_succ, Nat.reduceAdd]
        go_wp2
        go_ret
        exact ⟨rfl, below_step HB.out hb⟩
set_option maxHeartbeats 16000000 in
set_option maxRecDepth 100000 in
theorem back5_many (lsn : Int) (A Ab : Option Addr) (c cb : Nat) (ln lb : List Int) (w : World) (hx : 16384 < lb.length) :
    Calls Try.prog 10 #[.int .i64 lsn, .slice A ln.length c, .slice Ab lb.length cb] w fun e w' => e = .returned (.bool true) ∧ Below w.heap.size w w' := by
  have HB := Aside0.mk (Below.refl w.heap.size w)
  have c1 : decide ((lb.length : Int) > 16384) = true := decide_eq_true (by omega)
  clear hx
  go_enter Try.func10, Try.ntmps10
  go_wp2_with ((with_reducible refine gate_callee (f := 35) rfl ?_); (with_reducible refine gate_dst (N := 12) rfl ?_); refine goesL_ (some 12) rfl rfl Try.func35 (by kernel_rfl) rfl #[] rfl (by (try simp only [List.map_toArray, List.map_cons, List.map_nil]); first | done | rfl) ?_; (refine (alive5_calls _).mono ?_); rintro e w_al ⟨rfl, hb_⟩; refine ⟨_, rfl, ?_⟩; replace HB := Aside0.mk (below_step HB.out hb_); clear hb_)
  go_ret
  exact ⟨rfl, HB.out⟩
theorem back5_true (lsn : Int) (A Ab : Option Addr) (c cb : Nat) (ln lb : List Int) (w : World) (hA : Kd.C (Kd.int .i64) w A ln.length ln) (hB : Kd.C (Kd.int .u8) w Ab lb.length lb) (hca : ln.length ≤ c) (hcb : lb.length ≤ cb)
    (sa : ln.length ≤ 4611686018427387904) (hn : I64 lsn) (hI : ∀ x ∈ ln, I64 x) (hbl : Bytes lb) :
    Calls Try.prog 10 #[.int .i64 lsn, .slice A ln.length c, .slice Ab lb.length cb] w fun e w' => e = .returned (.bool true) ∧ Below w.heap.size w w' := by
  by_cases hx : 16384 < lb.length
  · exact back5_many lsn A Ab c cb ln lb w hx
  · exact back5_few lsn A Ab c cb ln lb w hA hB hca hcb sa hn hI hbl hx
end Go.Proofs.Ytbphmpncajfaiaa.K
/- For every input PageBack answers true: pages come back from their sectors, and sectors have one form but for bytes 0. -/
namespace Go.Proofs.Ytbphmpncajfaiaa.pageBack
open Go.ChangeShapes Go.WideShapes Go.ChangeAt Go.RowKit Go.Joins Go.Proofs.Ytbphmpncajfaiaa.K Go.Proofs.Ytbphmpncajfaiaa.M
set_option linter.unusedVariables false
set_option linter.unusedSimpArgs false
set_option maxRecDepth 100000 in
theorem lifted (os : Os) (started : os.Started) (H : Type) (enc : TypeId × Value → H) :
    ReturnsInHanded {} Try.checked os 10 .any (Rows.pageBackSpec.pre6 enc Try.prog Try.f10 Rows.pageBackRow.domain false) (Rows.pageBackSpec.post enc Try.prog Try.f10 false true false false) := by
  refine returnsInHanded_of_change_sized (C := Try.checked) own started (by kernel_rfl) Try.func10
    (ChangeSpec.witness6 (enc := enc) (C := Try.checked) false ⟨#[], #[.int .i64 0, .slice none 0 0, .slice none 0 0], []⟩ 8 (by kernel_rfl) (by kernel_rfl) (by kernel_rfl) (by kernel_rfl)) ?_
  intro W base args ds gs before hval0 hW hcnd hsz0 _
  have hsz : (DataW.weightsEach Try.prog (Try.f10.params.toList ++ Rows.pageBackSpec.plain.varTypes Try.prog) (ds ++ gs)).all (· ≤ reachBytes) = true := hsz0
  have hval : ∀ (j : Nat) t v, Try.f10.params[j]? = some t → args[j]? = some v → Value.okWide Try.prog W .any base t v := hval0
  have hW' := hW
  obtain ⟨p, q, hA0, hV, rfl, hfz, hnd⟩ := hW
  have hA : DataW.TrodAll enc Try.prog W 0 (fun _ => true) true Try.f10.params.toList args.toList ds p := hA0
  rw [Try.params10] at hA hval hsz
  obtain ⟨v0, vs0, d0, ds0, p0, q0, hargs, rfl, rfl, h0, r0⟩ := trodAll_cons hA
  obtain ⟨v1, vs1, d1, ds1, p1, q1, rfl, rfl, rfl, h1, r1⟩ := trodAll_cons r0
  obtain ⟨v2, vs2, d2, ds2, p2, q2, rfl, rfl, rfl, h2, r2⟩ := trodAll_cons r1
  obtain ⟨rfl, rfl, rfl⟩ := trodAll_nil r2
  obtain rfl : args = #[v0, v1, v2] := by cases args; simp_all
  obtain ⟨rfl, rfl⟩ := trodVars_none hV
  have k0 := h0
  obtain ⟨a0, rfl, rfl, rfl, w0⟩ := open_int Try.underlying3 (hval 0 3 v0 rfl rfl) h0
  have k1 := h1
  obtain ⟨fu1, hf1⟩ := h1
  obtain ⟨A1, l1, c1, hcs1, lc1, hC1, hw1, sz1⟩ := open_row Try.underlying27 Try.underlying3 (by kernel_rfl) hf1 hsz (j := 1) (t := 27) rfl rfl (B := 8) (by kernel_rfl)
  obtain ⟨aa1, ln1, cp1, rfl⟩ := okWide_slice Try.underlying27 (hval 1 27 v1 rfl rfl)
  simp only [Value.cells, List.cons.injEq, and_true, Value.slice.injEq] at hcs1
  obtain ⟨rfl, rfl, rfl⟩ := hcs1
  have k2 := h2
  obtain ⟨fu2, hf2⟩ := h2
  obtain ⟨A2, l2, c2, hcs2, lc2, hC2, hw2, sz2⟩ := open_row Try.underlying22 Try.underlying5 (by kernel_rfl) hf2 hsz (j := 2) (t := 22) rfl rfl (B := 1) (by kernel_rfl)
  obtain ⟨aa2, ln2, cp2, rfl⟩ := okWide_slice Try.underlying22 (hval 2 22 v2 rfl rfl)
  simp only [Value.cells, List.cons.injEq, and_true, Value.slice.injEq] at hcs2
  obtain ⟨rfl, rfl, rfl⟩ := hcs2
  clear hA0 hval0 hsz0
  refine (back5_true a0 aa1 aa2 cp1 cp2 l1 l2 W hC1 hC2 lc1 lc2 (by omega) (int_wf w0) (fun x hx => int_wf (hw1 x hx)) (bytes_wf hw2)).mono fun e W' ⟨he, bel⟩ => ?_
  subst he
  exact ⟨_, rfl, _, _, _, [], _, [], hW', trodAll_mk1 (shut_bool Try.underlying4 _), (trodAll_cons_mk (shut_int Try.underlying3 w0) (trodAll_cons_mk (Below.trod laidOut (by kernel_rfl) (of_decide_eq_true (by kernel_rfl)) k1 bel (places_lt k1)) (trodAll_cons_mk (Below.trod laidOut (by kernel_rfl) (of_decide_eq_true (by kernel_rfl)) k2 bel (places_lt k2)) trodAll_mk0))), rfl, bel.frame _, fun h => by cases h⟩
theorem over : Rows.pageBackRow.holds Try.pinned (OpenSpec.ofChange Rows.pageBackSpec) :=
  OpenClaim.holds_of_wide 10 Try.f10 rfl rfl rfl rfl rfl rfl rfl ⟨rfl, rfl, rfl, rfl, rfl⟩ rfl rfl rfl rfl rfl (by kernel_rfl) Try.func10 (by kernel_rfl)
    (of_decide_eq_true (by kernel_rfl)) (by unfold Func.isWrapper; first | (rw [if_pos (by decide +kernel)]; kernel_rfl) | (rw [if_neg (by decide +kernel)]; exact ⟨rfl, rfl⟩))
    (fun os started H enc _ => lifted os started H enc)
theorem proved : Rows.PageBackSaid := over
#print axioms proved
end Go.Proofs.Ytbphmpncajfaiaa.pageBack
namespace Go.Proofs.Ytbphmpncajfaiaa
/-- The row, under a short name, for the claim. -/
theorem pageBack_holds : Rows.PageBackSaid := pageBack.proved
end Go.Proofs.Ytbphmpncajfaiaa
