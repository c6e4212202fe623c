/- Words: a region whose order is open, whose operations read and make memory: each operation shown once, whatever stands behind it already. -/
import Derived.Below
import Derived.Orders
import Derived.OrdersHeld
import Derived.WalkKit
namespace Go.Proofs.Ytbphmpncajfaiaa.K
open Go.RowKit Go.ChangeShapes
variable {P : Program} {ops : Array Oper} {Q : Exit → Act → World → Prop}
def fillN (a : Act) (N : Nat → Tmp) (vs : Nat → Value) : Nat → Act
  | 0 => a
  | k + 1 => (fillN a N vs k).put (some (N k)) (vs k)
theorem fillN_defers (a : Act) (N : Nat → Tmp) (vs : Nat → Value) : ∀ k, (fillN a N vs k).defers = a.defers
  | 0 => rfl
  | k + 1 => fillN_defers a N vs k
theorem fillN_size (a : Act) (N : Nat → Tmp) (vs : Nat → Value) : ∀ k, (fillN a N vs k).tmps.size = a.tmps.size
  | 0 => rfl
  | k + 1 => by
    show ((fillN a N vs k).tmps.setIfInBounds (N k) (vs k)).size = _
    rw [Array.size_setIfInBounds, fillN_size a N vs k]
theorem fillN_other (a : Act) (N : Nat → Tmp) (vs : Nat → Value) (t : Tmp) : ∀ k, (∀ i, i < k → N i ≠ t) → (fillN a N vs k).tmps[t]? = a.tmps[t]?
  | 0, _ => rfl
  | k + 1, h => by
    show ((fillN a N vs k).tmps.setIfInBounds (N k) (vs k))[t]? = _
    rw [Array.getElem?_setIfInBounds_ne (h k (by omega)), fillN_other a N vs t k (fun i hi => h i (by omega))]
theorem fillN_at (a : Act) (N : Nat → Tmp) (vs : Nat → Value) (hs : ∀ i, N i < a.tmps.size ∨ True) : ∀ k, (∀ i j, i < k → j < k → N i = N j → i = j) → (∀ i, i < k → N i < a.tmps.size) → ∀ i, i < k → (fillN a N vs k).tmps[N i]? = some (vs i)
  | 0, _, _, i, hi => by omega
  | k + 1, hinj, hsz, i, hi => by
    show ((fillN a N vs k).tmps.setIfInBounds (N k) (vs k))[N i]? = _
    by_cases h : i = k
    · subst h
      rw [Array.getElem?_setIfInBounds_self_of_lt (by rw [fillN_size]; exact hsz i (by omega))]
    · rw [Array.getElem?_setIfInBounds_ne (fun e => h (hinj i k hi (by omega) e.symm))]
      exact fillN_at a N vs hs k (fun x y hx hy => hinj x y (by omega) (by omega)) (fun x hx => hsz x (by omega)) i (by omega)
def unlisted (l : Array Bool) : Nat := (l.toList.filter (fun b => !b)).length
theorem unlisted_set {l : Array Bool} {i : Nat} (hi : i < l.size) (h : l[i] = false) : unlisted l = unlisted (l.setIfInBounds i true) + 1 := by
  unfold unlisted
  obtain ⟨l⟩ := l
  simp only [List.setIfInBounds_toArray] at *
  simp only [List.size_toArray, List.getElem_toArray] at hi h
  induction l generalizing i with
  | nil => simp at hi
  | cons b l ih =>
    cases i with
    | zero =>
      simp only [List.getElem_cons_zero] at h
      subst h
      simp
    | succ i =>
      simp only [List.getElem_cons_succ] at h
      have := ih (i := i) (by simpa using hi) h
      cases b <;> simp_all
theorem unlisted_zero {l : Array Bool} (h : unlisted l = 0) : ∀ i (hi : i < l.size), l[i] = true := by
  intro i hi
  unfold unlisted at h
  have h1 := List.eq_nil_of_length_eq_zero h
  have h2 := List.filter_eq_nil_iff.1 h1 l[i] (by simp)
  simpa using h2
theorem region_mem {id n : Nat} {a0 : Act} {w0 : World} (hm : P.follows .mixedOrders = true) (hn : ops.size = n) (N : Nat → Tmp) (hN : ∀ i o, ops[i]? = some o → o.dst = some (N i)) (hinj : ∀ i j, i < n → j < n → N i = N j → i = j) (hsz : ∀ i, i < n → N i < a0.tmps.size)
    (hdag : ∀ i o, ops[i]? = some o → ∀ e ∈ o.after, Region.binds .any e = true → e.on < i)
    (S : Nat → Value → World → Prop) (hS : ∀ i v w w', S i v w → Below w.heap.size w w' → S i v w')
    (step : ∀ i o a w, ops[i]? = some o → a.defers = a0.defers → a.tmps.size = a0.tmps.size → (∀ t, (∀ j, j < n → N j ≠ t) → a.tmps[t]? = a0.tmps[t]?) → Below w0.heap.size w0 w →
      (∀ e ∈ o.after, Region.binds .any e = true → ∃ v, a.tmps[N e.on]? = some v ∧ S e.on v w) →
      if Region.wanted o (yielded ops a.tmps) = true then o.wp P a w (fun a' w' => ∃ v, a' = a.put o.dst v ∧ S i v w' ∧ Below w.heap.size w w') Q else S i undef w)
    (hend : ∀ (vs : Nat → Value) (w : World), Below w0.heap.size w0 w → (∀ i, i < n → S i (vs i) w) → Q .normal (fillN a0 N vs n) w) : (Code.region id ops true).wp P Q a0 w0 := by
  refine wp_region_any hm ?_
  have key : ∀ (fuel : Nat) (listed : Array Bool) (a : Act) (w : World), listed.size = n → unlisted listed ≤ fuel → a.defers = a0.defers → a.tmps.size = a0.tmps.size → (∀ t, (∀ j, j < n → N j ≠ t) → a.tmps[t]? = a0.tmps[t]?) → Below w0.heap.size w0 w →
      (∀ i, i < n → listed.getD i true = true → ∃ v, a.tmps[N i]? = some v ∧ S i v w) → wpAny P .any ops Q fuel listed a w := by
    have fin : ∀ (listed : Array Bool) (a : Act) (w : World), a.defers = a0.defers → a.tmps.size = a0.tmps.size → (∀ t, (∀ j, j < n → N j ≠ t) → a.tmps[t]? = a0.tmps[t]?) → Below w0.heap.size w0 w →
        (∀ i, i < n → ∃ v, a.tmps[N i]? = some v ∧ S i v w) → Q .normal a w := by
      intro listed a w hd hs hf hb hall
      have he : a = fillN a0 N (fun i => a.tmps.getD (N i) undef) n := by
        have ht : a.tmps = (fillN a0 N (fun i => a.tmps.getD (N i) undef) n).tmps := by
          apply Array.ext_getElem?
          intro t
          by_cases hx : ∃ i, i < n ∧ N i = t
          · obtain ⟨i, hi, rfl⟩ := hx
            rw [fillN_at a0 N _ (fun _ => .inr trivial) n hinj hsz i hi]
            obtain ⟨v, hv, _⟩ := hall i hi
            rw [hv, Array.getD_eq_getD_getElem?, hv]
            rfl
          · rw [fillN_other a0 N _ t n (fun i hi e => hx ⟨i, hi, e⟩)]
            exact hf t (fun j hj e => hx ⟨j, hj, e⟩)
        have hdd : a.defers = (fillN a0 N (fun i => a.tmps.getD (N i) undef) n).defers := by rw [fillN_defers]; exact hd
        cases a
        simp only at ht hdd
        generalize fillN a0 N _ n = b at ht hdd ⊢
        cases b
        simp only at ht hdd
        rw [← ht, ← hdd]
      rw [he]
      refine hend _ w hb (fun i hi => ?_)
      obtain ⟨v, hv, hs'⟩ := hall i hi
      rw [Array.getD_eq_getD_getElem?, hv]
      exact hs'
    have all_of : ∀ (listed : Array Bool), listed.size = n → Region.ready .any ops listed = [] → ∀ i, i < n → listed.getD i true = true := by
      intro listed hl hr i
      induction i using Nat.strongRecOn with
      | ind i ih =>
        intro hi
        cases hv : listed.getD i true with
        | true => rfl
        | false =>
          exfalso
          have hmem : i ∈ Region.ready .any ops listed := by
            unfold Region.ready
            refine List.mem_filter.2 ⟨List.mem_range.2 (by omega), ?_⟩
            have ho : ops[i]? = some ops[i] := Array.getElem?_eq_getElem (by omega)
            rw [hv, ho]
            simp only [Bool.not_false, Bool.true_and, Option.map_some, Option.getD_some]
            rw [Array.all_eq_true']
            intro e he
            cases hb : Region.binds .any e with
            | false => rfl
            | true =>
              have hlt := hdag i _ ho e he hb
              have h3 := ih e.on hlt (by omega)
              rw [Array.getD_eq_getD_getElem?, Array.getElem?_eq_getElem (show e.on < listed.size by omega)] at h3
              simp only [Option.getD_some] at h3
              rw [Array.getD_eq_getD_getElem?, Array.getElem?_eq_getElem (show e.on < listed.size by omega)]
              simp [h3]
          rw [hr] at hmem
          cases hmem
    intro fuel
    induction fuel with
    | zero =>
      intro listed a w hl hu hd hs hf hb hP
      have hall : ∀ i, i < n → listed.getD i true = true := fun i hi => by
        rw [Array.getD_eq_getD_getElem?, Array.getElem?_eq_getElem (by omega)]
        exact unlisted_zero (by omega) i (by omega)
      refine ⟨?_, fin listed a w hd hs hf hb (fun i hi => hP i hi (hall i hi))⟩
      refine List.eq_nil_iff_forall_not_mem.2 (fun i hi => ?_)
      unfold Region.ready at hi
      obtain ⟨h1, h2⟩ := List.mem_filter.1 hi
      rw [hall i (by have := List.mem_range.1 h1; omega)] at h2
      simp at h2
    | succ fuel ih =>
      intro listed a w hl hu hd hs hf hb hP
      refine ⟨fun hr => fin listed a w hd hs hf hb (fun i hi => hP i hi (all_of listed hl hr i hi)), fun i hi => ?_⟩
      unfold Region.ready at hi
      obtain ⟨h1, h2⟩ := List.mem_filter.1 hi
      have hin : i < n := by have := List.mem_range.1 h1; omega
      have ho : ops[i]? = some ops[i] := Array.getElem?_eq_getElem (by omega)
      rw [ho] at h2
      simp only [Option.map_some, Option.getD_some, Bool.and_eq_true, Bool.not_eq_true'] at h2
      have hdep : ∀ e ∈ (ops[i]).after, Region.binds .any e = true → ∃ v, a.tmps[N e.on]? = some v ∧ S e.on v w := by
        intro e he hbd
        have h3 := Array.all_eq_true'.1 h2.2 e he
        rw [hbd] at h3
        simp only [Bool.not_true, Bool.false_or] at h3
        have hlt := hdag i _ ho e he hbd
        refine hP e.on (by omega) ?_
        rw [Array.getD_eq_getD_getElem?, Array.getElem?_eq_getElem (show e.on < listed.size by omega)] at h3 ⊢
        simpa using h3
      have hst := step i _ a w ho hd hs hf hb hdep
      have hlf : listed[i]'(by omega) = false := by
        have h3 := h2.1
        rw [Array.getD_eq_getD_getElem?, Array.getElem?_eq_getElem (by omega)] at h3
        simpa using h3
      have hun := unlisted_set (i := i) (by omega) hlf
      have go : ∀ (v : Value) (w' : World), S i v w' → Below w.heap.size w w' → wpAny P .any ops Q fuel (listed.setIfInBounds i true) (a.put (ops[i]).dst v) w' := by
        intro v w' hv hbw
        rw [hN i _ ho]
        refine ih _ _ _ (by rw [Array.size_setIfInBounds]; exact hl) (by omega) hd (by show (a.tmps.setIfInBounds (N i) v).size = _; rw [Array.size_setIfInBounds]; exact hs) ?_ ?_ ?_
        · intro t ht
          show (a.tmps.setIfInBounds (N i) v)[t]? = _
          rw [Array.getElem?_setIfInBounds_ne (ht i hin)]
          exact hf t ht
        · exact (hb.trans (Below.mono hbw hb.size))
        · intro j hj hlj
          show ∃ v', (a.tmps.setIfInBounds (N i) v)[N j]? = some v' ∧ S j v' w'
          by_cases hji : j = i
          · subst hji
            rw [Array.getElem?_setIfInBounds_self_of_lt (by rw [hs]; exact hsz j hj)]
            exact ⟨v, rfl, hv⟩
          · rw [Array.getElem?_setIfInBounds_ne (fun e => hji (hinj j i hj hin e.symm))]
            have hlj' : listed.getD j true = true := by
              rw [Array.getD_eq_getD_getElem?, Array.getElem?_setIfInBounds_ne (fun e => hji e.symm)] at hlj
              rw [Array.getD_eq_getD_getElem?]
              exact hlj
            obtain ⟨v', h3, h4⟩ := hP j hj hlj'
            exact ⟨v', h3, hS j v' w w' h4 hbw⟩
      unfold wpOp
      rw [ho]
      simp only
      by_cases hw : Region.wanted ops[i] (yielded ops a.tmps) = true
      · rw [if_pos hw] at hst ⊢
        refine .inl (Oper.wp_mono (fun a' w' hh => ?_) hst)
        obtain ⟨v, rfl, hv, hbw⟩ := hh
        exact go v w' hv hbw
      · rw [if_neg hw] at hst ⊢
        exact go undef w hst (Below.refl _ _)
  refine key ops.size _ a0 _ (by rw [Array.size_replicate]; exact hn) ?_ rfl rfl (fun _ _ => rfl) ⟨rfl, rfl, rfl, Nat.le_refl _, fun _ _ => rfl⟩ ?_
  · unfold unlisted
    exact Nat.le_trans (List.length_filter_le _ _) (by simp)
  · intro i hi hh
    rw [Array.getD_eq_getD_getElem?, Array.getElem?_eq_getElem (by rw [Array.size_replicate]; omega)] at hh
    simp at hh
end Go.Proofs.Ytbphmpncajfaiaa.K
namespace Go.Proofs.Ytbphmpncajfaiaa.K
open Go.RowKit Go.ChangeShapes
section
variable {P : Program} {ops : Array Oper} {Q : Exit → Act → World → Prop} {o : Oper} {a : Act} {w w' : World} {v : Value} {S : Value → World → Prop}
theorem reg_value (hw : Region.wanted o (yielded ops a.tmps) = true) (hrun : (execOp a.eval o).run P w = .ok (.value v) w') (hS : S v w') (hb : Below w.heap.size w w') :
    if Region.wanted o (yielded ops a.tmps) = true then o.wp P a w (fun a' w' => ∃ v, a' = a.put o.dst v ∧ S v w' ∧ Below w.heap.size w w') Q else S undef w := by
  rw [if_pos hw]
  unfold Oper.wp
  rw [hrun]
  exact ⟨v, rfl, hS, hb⟩
theorem reg_call {f : FuncId} {args : Array Value} (hw : Region.wanted o (yielded ops a.tmps) = true) (hrun : (execOp a.eval o).run P w = .ok (.enter f args) w) (h : Calls P f args w fun e w' => ∃ v, e = .returned v ∧ S v w' ∧ Below w.heap.size w w') :
    if Region.wanted o (yielded ops a.tmps) = true then o.wp P a w (fun a' w' => ∃ v, a' = a.put o.dst v ∧ S v w' ∧ Below w.heap.size w w') Q else S undef w := by
  rw [if_pos hw]
  unfold Oper.wp
  rw [hrun, Oper.upon_enter]
  refine h.mono fun e w'' hh => ?_
  obtain ⟨v, rfl, hs, hb⟩ := hh
  exact ⟨v, rfl, hs, hb⟩
theorem reg_skip (hw : Region.wanted o (yielded ops a.tmps) = false) (hS : S undef w) :
    if Region.wanted o (yielded ops a.tmps) = true then o.wp P a w (fun a' w' => ∃ v, a' = a.put o.dst v ∧ S v w' ∧ Below w.heap.size w w') Q else S undef w := by
  rw [hw]
  exact hS
theorem ev_of {t : Tmp} (h : a.tmps[t]? = some v) : a.eval (.tmp t) = v := by
  show a.tmps.getD t undef = v
  rw [Array.getD_eq_getD_getElem?, h]
  rfl
theorem enters {f : FuncId} {fn : Func} (hf : P.funcs[f]? = some fn) (hname : (fn.name == "runtime.NumGoroutine") = false) (hb : fn.body.isSome = true) (args : Array Value) (w : World) : (callFunc f args).run P w = .ok (.enter f args) w := by
  have h1 : fn.name ≠ "runtime.NumGoroutine" := by simpa using hname
  obtain ⟨c, hc⟩ := Option.isSome_iff_exists.1 hb
  simp [callFunc, hf, h1, hc]
theorem reg_enters {f : FuncId} {fn : Func} {as : Array Operand} {ts : Array TypeId} (hf : P.funcs[f]? = some fn) (hname : (fn.name == "runtime.NumGoroutine") = false) (hb : fn.body.isSome = true) (args : Array Value)
    (hop : o.op = .call { callee := .value (.func f), args := as, argTypes := ts }) (hargs : as.map a.eval = args) : (execOp a.eval o).run P w = .ok (.enter f args) w := by
  have he := enters hf hname hb args w
  unfold execOp
  simp [hop, resolve, Deferred.ofValue, invoke, Act.eval, hargs, he]
theorem wanted_of (j : Nat) (want b r : Bool) {t : Tmp} (ht : a.tmps[t]? = some (.bool b)) (hg : o.guard = some (j, want)) (hd : (ops[j]?).bind (·.dst) = some t) (hr : (b == want) = r) : Region.wanted o (yielded ops a.tmps) = r := by
  subst hr
  unfold Region.wanted yielded
  rw [hg]
  simp only [hd, Option.bind_some, ht]
  cases b <;> cases want <;> rfl
end
end Go.Proofs.Ytbphmpncajfaiaa.K
