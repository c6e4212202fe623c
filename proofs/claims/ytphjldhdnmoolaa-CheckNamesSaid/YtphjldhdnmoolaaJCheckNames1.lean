/- Joined: A14, A15, B0, B2, B3, B4, B5, B6, B7, B8, B9, B10, B11, B12, B13, B14, B15 -/
import Derived.Test.YtphjldhdnmoolaaJCheckNames0
set_option linter.unusedVariables false
set_option linter.unusedSimpArgs false
/- Words: regions whose order is open: what the text's order gives, every order gives. -/
namespace Go.Proofs.Ytphjldhdnmoolaa.A
open Go
theorem Le.drawn (κ : K) (w : World) (d : Nat) : Le κ w κ { w with drawn := d } := ⟨fun _ _ h => h, fun _ r h => ⟨r, h, rfl, .inl rfl⟩, fun _ _ h => ⟨h, rfl⟩⟩
theorem Ev.drawn (wr : Nat → Prop) (κ : K) (w : World) (d : Nat) : Ev wr κ w κ { w with drawn := d } := ⟨rfl, rfl, rfl, Nat.le_refl _, fun _ _ _ => ⟨rfl, fun _ h => h⟩, Le.drawn κ w d⟩
theorem StRel.drawn {n : Nat} {wr : Nat → Prop} {κ : K} {st : St} {a : Act} {w : World} (h : StRel n wr κ st a w) (d : Nat) : StRel n wr κ st a { w with drawn := d } :=
  ⟨⟨h.inv.len, h.inv.nodup, fun o b x h1 h2 => (h.inv.obj o b x h1 h2).mono (Le.drawn κ w d) rfl, h.inv.rows, fun k r hk => ⟨(h.inv.row k r hk).no, (h.inv.row k r hk).le, (h.inv.row k r hk).max, (h.inv.row k r hk).blk⟩, h.inv.rowne, h.inv.rs, h.inv.wobj, h.inv.wrow, h.inv.wnew⟩,
    h.defers, h.size, fun i => Rel.mono (Le.drawn κ w d) _ _ (h.t i)⟩
/-- The operations that stand before one, as a row of bits. -/
def msk (A : List Nat) : List Edge → Nat
  | [] => 0
  | e :: es => if Region.binds .any e then (2 ^ e.on ||| A.getD e.on 0) ||| msk A es else msk A es
theorem msk_spec {A : List Nat} {j : Nat} : ∀ {es : List Edge}, (msk A es).testBit j = true → ∃ e ∈ es, Region.binds .any e = true ∧ (j = e.on ∨ (A.getD e.on 0).testBit j = true)
  | [], h => by simp [msk] at h
  | e :: es, h => by
    unfold msk at h
    split at h
    · rename_i hb
      simp only [Nat.testBit_or, Bool.or_eq_true, Nat.testBit_two_pow, decide_eq_true_eq] at h
      rcases h with (h | h) | h
      · exact ⟨e, List.mem_cons_self .., hb, .inl h.symm⟩
      · exact ⟨e, List.mem_cons_self .., hb, .inr h⟩
      · obtain ⟨e', h1, h2⟩ := msk_spec h; exact ⟨e', List.mem_cons_of_mem _ h1, h2⟩
    · obtain ⟨e', h1, h2⟩ := msk_spec h; exact ⟨e', List.mem_cons_of_mem _ h1, h2⟩
def soO (ops : Array Oper) (o : Oper) : SO := ⟨o.dst, o.op, stG ops o.guard⟩
def allLt (P : Nat → Bool) : Nat → Bool
  | 0 => true
  | n + 1 => P n && allLt P n
theorem allLt_spec {P : Nat → Bool} : ∀ {n : Nat}, allLt P n = true → ∀ i, i < n → P i = true
  | n + 1, h, i, hi => by
    unfold allLt at h
    simp only [Bool.and_eq_true] at h
    by_cases e : i = n
    · subst e; exact h.1
    · exact allLt_spec h.2 i (by omega)
def chk1 (ro : List Nat) (refs : Rf) (A : List Nat) (ops : List SO) (i : Nat) (o : Oper) (s : SO) : Bool :=
  A.getD i 0 == msk A o.after.toList && (o.after.toList.all fun e => !(Region.binds .any e) || decide (e.on < i)) && allLt (fun j => (A.getD i 0).testBit j || (match ops[j]? with | some a => indep ro refs a s | none => true)) i
def chkL (ro : List Nat) (refs : Rf) (A : List Nat) (ops : List SO) : Nat → List Oper → List SO → Bool
  | i, o :: os, s :: ss => chk1 ro refs A ops i o s && chkL ro refs A ops (i + 1) os ss
  | _, _, _ => true
def chk (ro : List Nat) (refs : Rf) (A : List Nat) (raw : Array Oper) : Bool := chkL ro refs A (stO raw raw.toList) 0 raw.toList (stO raw raw.toList)
theorem stO_at (raw : Array Oper) : ∀ (l : List Oper) (i : Nat), (stO raw l)[i]? = (l[i]?).map (soO raw)
  | [], i => rfl
  | o :: l, 0 => rfl
  | o :: l, i + 1 => stO_at raw l i
theorem chkL_spec {ro : List Nat} {refs : Rf} {A : List Nat} {ops : List SO} : ∀ {os : List Oper} {ss : List SO} {k : Nat}, chkL ro refs A ops k os ss = true → ∀ i o s, os[i]? = some o → ss[i]? = some s → chk1 ro refs A ops (k + i) o s = true
  | [], ss, k, h, i, o, s, h1, h2 => by cases h1
  | o :: os, [], k, h, i, o', s, h1, h2 => by cases h2
  | o :: os, s :: ss, k, h, 0, o', s', h1, h2 => by
    cases h1; cases h2
    unfold chkL at h
    simp only [Bool.and_eq_true] at h
    exact h.1
  | o :: os, s :: ss, k, h, i + 1, o', s', h1, h2 => by
    unfold chkL at h
    simp only [Bool.and_eq_true] at h
    have := chkL_spec h.2 i o' s' h1 h2
    rwa [show k + 1 + i = k + (i + 1) by omega] at this
section
variable {n : Nat} {wr : Nat → Prop} {ro : List Nat} {refs : Rf} {A : List Nat} {raw : Array Oper}
theorem eff_wp {κ : K} {st : St} {a : Act} {w : World} {o : Oper} {v : IV} {m' : Mem} (hr : StRel n wr κ st a w) (hd : dstOK n o.dst = true) (he : eff ro refs (soO raw o) st v m') {K' : Act → World → Prop} {Q : Exit → Act → World → Prop}
    (hK : ∀ κ' a' w', Ev wr κ w κ' w' → StRel n wr κ' (St.put ⟨st.t, m'⟩ o.dst v) a' w' → K' a' w') : if Region.wanted o (yielded raw a.tmps) = true then o.wp P a w K' Q else K' (a.put o.dst undef) w := by
  have run : effN (nxt ro o.dst st o.op) st v m' → o.wp P a w K' Q := by
    intro h
    refine g2_wp (ro := ro) (Kp := fun s => s = St.put ⟨st.t, m'⟩ o.dst v) hr hd ?_ (fun κ' a' w' s h1 h2 h3 => hK κ' a' w' h1 (h3 ▸ h2))
    unfold effN at h
    split at h
    · rename_i r e
      rw [e]
      obtain ⟨h1, h2, h3⟩ := h
      exact ⟨h1, by rw [h2, h3]⟩
    · rename_i f args e
      rw [e]
      exact ⟨v, m', h.1, h.2.1, rfl⟩
    · exact h.elim
  unfold eff at he
  cases hg : o.guard with
  | none =>
    have e : gv (soO raw o).g st = some true := by show gv (stG raw o.guard) st = _; rw [hg]; rfl
    rw [e] at he
    rw [show Region.wanted o (yielded raw a.tmps) = true by unfold Region.wanted; rw [hg], if_pos rfl]
    exact run he.1
  | some p =>
    obtain ⟨j, want⟩ := p
    cases hs : (raw[j]?).bind (·.dst) with
    | none =>
      have e : gv (soO raw o).g st = none := by show gv (stG raw o.guard) st = _; rw [hg]; show gv (some ((raw[j]?).bind (·.dst), want)) st = _; rw [hs]; rfl
      rw [e] at he; exact he.elim
    | some s =>
      have e : gv (soO raw o).g st = gvb (st.t s) want := by show gv (stG raw o.guard) st = _; rw [hg]; show gv (some ((raw[j]?).bind (·.dst), want)) st = _; rw [hs]; rfl
      rw [e] at he
      cases hc : gvb (st.t s) want with
      | none => rw [hc] at he; exact he.elim
      | some c =>
        rw [hc] at he
        rw [want_ok hg hs hr hc]
        cases c with
        | true =>
          rw [if_pos rfl]
          exact run he.1
        | false =>
          rw [if_neg (by simp)]
          obtain ⟨rfl, rfl⟩ := he
          exact hK κ _ w (Ev.refl _ _ _) (hr.put hd (by simp only [Rel]; rfl))
theorem dr_any (hchk : chk ro refs A raw = true) {Q : Exit → St → Prop} {κ0 : K} {w0 : World} : ∀ (fuel : Nat) (rem : List Nat) (listed : Array Bool) (st : St) (κ : K) (a : Act) (w : World),
    rem.length ≤ fuel → rem.Pairwise (· < ·) → (∀ i, i ∈ rem ↔ (i < raw.size ∧ listed.getD i true = false)) → listed.size = raw.size →
    (∀ i, i < raw.size → listed.getD i false = true → ∀ j, (A.getD i 0).testBit j = true → listed.getD j false = true) →
    Ev wr κ0 w0 κ w → StRel n wr κ st a w → OpsR n ro refs (rem.filterMap fun i => (raw[i]?).map (soO raw)) st (Q .normal) →
    wpAny P .any raw (fun e a' w' => ∃ κ' st', Ev wr κ0 w0 κ' w' ∧ StRel n wr κ' st' a' w' ∧ Q e st') fuel listed a w := by
  have hspec : ∀ i o, raw[i]? = some o → chk1 ro refs A (stO raw raw.toList) i o (soO raw o) = true := by
    intro i o ho
    have h1 : raw.toList[i]? = some o := by simpa using ho
    have := chkL_spec hchk i o (soO raw o) h1 (by rw [stO_at, h1]; rfl)
    simpa using this
  have hdag : ∀ i o, raw[i]? = some o → ∀ e ∈ o.after, Region.binds .any e = true → e.on < i := by
    intro i o ho e he hb
    have h := hspec i o ho
    unfold chk1 at h
    simp only [Bool.and_eq_true] at h
    have h2 := List.all_eq_true.1 h.1.2 e (by simpa using he)
    rw [hb] at h2
    simpa using h2
  have hend : ∀ (rem : List Nat) (listed : Array Bool), rem.Pairwise (· < ·) → (∀ i, i ∈ rem ↔ (i < raw.size ∧ listed.getD i true = false)) → listed.size = raw.size → Region.ready .any raw listed = [] → rem = [] := by
    intro rem listed hp hm hl hr
    cases rem with
    | nil => rfl
    | cons i rem =>
      exfalso
      have hi := (hm i).1 (List.mem_cons_self ..)
      have : i ∈ Region.ready .any raw listed := by
        rw [mem_ready]
        refine ⟨hi.2, raw[i], Array.getElem?_eq_getElem hi.1, fun e he hb => ?_⟩
        have hlt := hdag i _ (Array.getElem?_eq_getElem hi.1) e he hb
        cases hv : listed.getD e.on true with
        | true =>
          rw [Array.getD_eq_getD_getElem?, Array.getElem?_eq_getElem (show e.on < listed.size by omega)] at hv ⊢
          exact hv
        | false =>
          have := (hm e.on).2 ⟨by omega, hv⟩
          cases this with
          | head => omega
          | tail _ h => have := (List.pairwise_cons.1 hp).1 _ h; omega
      rw [hr] at this
      cases this
  intro fuel
  induction fuel with
  | zero =>
    intro rem listed st κ a w hf hp hm hl hdc hev hr h
    obtain rfl := List.eq_nil_of_length_eq_zero (Nat.le_zero.1 hf)
    refine ⟨?_, κ, st, hev, hr, h⟩
    refine List.eq_nil_iff_forall_not_mem.2 fun i hi => ?_
    obtain ⟨h1, o, ho, _⟩ := mem_ready.1 hi
    have := (hm i).2 ⟨by have := Array.getElem?_eq_some_iff.1 ho; exact this.1, h1⟩
    cases this
  | succ fuel ih =>
    intro rem listed st κ a w hf hp hm hl hdc hev hr h
    refine ⟨fun hrd => ?_, fun i hi => ?_⟩
    · obtain rfl := hend rem listed hp hm hl hrd
      exact ⟨κ, st, hev, hr, h⟩
    · obtain ⟨h1, o, ho, hall⟩ := mem_ready.1 hi
      have hin : i < raw.size := (Array.getElem?_eq_some_iff.1 ho).1
      have hmem : i ∈ rem := (hm i).2 ⟨hin, h1⟩
      obtain ⟨l1, l2, rfl⟩ := List.append_of_mem hmem
      have hp2 := List.pairwise_append.1 hp
      have hp3 := List.pairwise_cons.1 hp2.2.1
      have hsp := hspec i o ho
      unfold chk1 at hsp
      simp only [Bool.and_eq_true, beq_iff_eq] at hsp
      obtain ⟨⟨hA, -⟩, hpairs⟩ := hsp
      have hanc : ∀ j, (A.getD i 0).testBit j = true → listed.getD j false = true := by
        intro j hj
        rw [hA] at hj
        obtain ⟨e, he, hb, hor⟩ := msk_spec hj
        have h3 := hall e (by simpa using he) hb
        rcases hor with rfl | hor
        · exact h3
        · exact hdc e.on (by have := hdag i o ho e (by simpa using he) hb; omega) h3 j hor
      have hind : ∀ b ∈ l1.filterMap (fun i => (raw[i]?).map (soO raw)), indep ro refs b (soO raw o) = true := by
        intro b hb
        obtain ⟨j, hj, hjb⟩ := List.mem_filterMap.1 hb
        have hji : j < i := hp2.2.2 j hj i (List.mem_cons_self ..)
        have hlj := (hm j).1 (List.mem_append_left _ hj)
        have := allLt_spec hpairs j hji
        simp only [Bool.or_eq_true] at this
        rcases this with h4 | h4
        · have := hanc j h4
          rw [Array.getD_eq_getD_getElem?, Array.getElem?_eq_getElem (show j < listed.size by omega)] at this
          have h5 := hlj.2
          rw [Array.getD_eq_getD_getElem?, Array.getElem?_eq_getElem (show j < listed.size by omega)] at h5
          simp only [Option.getD_some] at this h5
          rw [this] at h5; cases h5
        · rw [stO_at] at h4
          have e : raw.toList[j]? = raw[j]? := by simp
          rw [e, hjb] at h4
          exact h4
      rw [List.filterMap_append, List.filterMap_cons, ho] at h
      obtain ⟨hd, v, m', he, hrest⟩ := OpsR_pull _ _ st hind h
      unfold wpOp
      rw [ho]
      simp only
      have fin := eff_wp (raw := raw) (o := o) (K' := wpAny P .any raw (fun e a' w' => ∃ κ' st', Ev wr κ0 w0 κ' w' ∧ StRel n wr κ' st' a' w' ∧ Q e st') fuel (listed.setIfInBounds i true)) (Q := fun e a' w' => ∃ κ' st', Ev wr κ0 w0 κ' w' ∧ StRel n wr κ' st' a' w' ∧ Q e st') hr hd he (fun κ' a' w' h5 h6 => by
        refine ih (l1 ++ l2) (listed.setIfInBounds i true) _ κ' a' w' ?_ ?_ ?_ ?_ ?_ (hev.trans h5) h6 (by rw [List.filterMap_append]; exact hrest)
        · simp only [List.length_append, List.length_cons] at hf ⊢; omega
        · exact List.pairwise_append.2 ⟨hp2.1, hp3.2, fun x hx y hy => hp2.2.2 x hx y (List.mem_cons_of_mem _ hy)⟩
        · intro j
          have hnot : ∀ j, j ∈ l1 ++ l2 → j ≠ i := by
            intro j hj e
            subst e
            rcases List.mem_append.1 hj with hj | hj
            · have := hp2.2.2 j hj j (List.mem_cons_self ..); omega
            · have := hp3.1 j hj; omega
          constructor
          · intro hj
            have := (hm j).1 (by rcases List.mem_append.1 hj with hj | hj; exact List.mem_append_left _ hj; exact List.mem_append_right _ (List.mem_cons_of_mem _ hj))
            refine ⟨this.1, ?_⟩
            rw [Array.getD_eq_getD_getElem?, Array.getElem?_setIfInBounds_ne (fun e => hnot j hj e.symm), ← Array.getD_eq_getD_getElem?]
            exact this.2
          · rintro ⟨hj1, hj2⟩
            by_cases e : j = i
            · subst e
              rw [Array.getD_eq_getD_getElem?, Array.getElem?_setIfInBounds_self_of_lt (by omega)] at hj2
              cases hj2
            · rw [Array.getD_eq_getD_getElem?, Array.getElem?_setIfInBounds_ne (fun e' => e e'.symm), ← Array.getD_eq_getD_getElem?] at hj2
              have := (hm j).2 ⟨hj1, hj2⟩
              rcases List.mem_append.1 this with h7 | h7
              · exact List.mem_append_left _ h7
              · cases h7 with
                | head => exact absurd rfl e
                | tail _ h7 => exact List.mem_append_right _ h7
        · rw [Array.size_setIfInBounds]; exact hl
        · intro k hk hlk j hj
          have hset : ∀ j, listed.getD j false = true → (listed.setIfInBounds i true).getD j false = true := by
            intro j hj
            rw [Array.getD_eq_getD_getElem?] at hj ⊢
            by_cases e : i = j
            · subst e; rw [Array.getElem?_setIfInBounds_self_of_lt (by omega)]; rfl
            · rw [Array.getElem?_setIfInBounds_ne e]; exact hj
          by_cases e : i = k
          · subst e; exact hset j (hanc j hj)
          · rw [Array.getD_eq_getD_getElem?, Array.getElem?_setIfInBounds_ne e, ← Array.getD_eq_getD_getElem?] at hlk
            exact hset j (hdc k hk hlk j hj))
      by_cases hw : Region.wanted o (yielded raw a.tmps) = true
      · rw [if_pos hw] at fin ⊢; exact .inl fin
      · rw [if_neg hw] at fin ⊢; exact fin
theorem follows_mixed : P.follows .mixedOrders = true := by kernel_rfl
theorem range_ops (raw : Array Oper) : (List.range raw.size).filterMap (fun i => (raw[i]?).map (soO raw)) = stO raw raw.toList := by
  have key : ∀ l : List Oper, (List.range l.length).filterMap (fun i => (l[i]?).map (soO raw)) = stO raw l := by
    intro l
    induction l with
    | nil => rfl
    | cons o l ih =>
      rw [List.length_cons, List.range_succ_eq_map, List.filterMap_cons]
      simp only [List.getElem?_cons_zero, Option.map_some, List.filterMap_map]
      rw [show stO raw (o :: l) = soO raw o :: stO raw l from rfl, ← ih]
      rfl
  have := key raw.toList
  simpa using this
theorem T.drawn {id : Nat} {st : St} {Q : Exit → St → Prop} (hchk : chk ro refs A raw = true) (h : OpsR n ro refs (stO raw raw.toList) st (Q .normal)) : T n wr (.region id raw true) st Q := by
  intro κ a w hr
  refine wp_region_any follows_mixed ?_
  refine dr_any hchk raw.size (List.range raw.size) _ st κ a _ (by simp) List.pairwise_lt_range ?_ (by simp) ?_ (Ev.drawn wr κ w _) (hr.drawn _) (by rw [range_ops]; exact h)
  · intro i
    constructor
    · intro hi
      have := List.mem_range.1 hi
      refine ⟨this, ?_⟩
      rw [Array.getD_eq_getD_getElem?, Array.getElem?_replicate, if_pos this]
      rfl
    · intro h; exact List.mem_range.2 h.1
  · intro i hi h3
    rw [Array.getD_eq_getD_getElem?, Array.getElem?_replicate] at h3
    split at h3 <;> cases h3
end
end Go.Proofs.Ytphjldhdnmoolaa.A
/- Words: triples over stripped code. -/
namespace Go.Proofs.Ytphjldhdnmoolaa.A
open Go
/-! ### triples over stripped code -/
def TS (n : Nat) (wr : Nat → Prop) (sc : SC) (st : St) (Q : Exit → St → Prop) : Prop := ∀ cd, strip cd = sc → T n wr cd st Q
section
variable {n : Nat} {wr : Nat → Prop} {ro : List Nat} {st : St} {Q : Exit → St → Prop}
theorem TS.mono {sc : SC} {Q' : Exit → St → Prop} (h : TS n wr sc st Q) (g : ∀ e s, Q e s → Q' e s) : TS n wr sc st Q' := fun cd e => (h cd e).mono g
theorem TS.seq {x y : SC} (h : TS n wr x st (thenE (fun s => TS n wr y s Q) Q)) : TS n wr (.sq x y) st Q := by
  intro cd e
  cases cd with
  | seq a b =>
    simp only [strip, SC.sq.injEq] at e
    obtain ⟨rfl, rfl⟩ := e
    refine T.seq ((h _ rfl).mono fun e s hq => ?_)
    cases e with
    | normal => exact hq _ rfl
    | _ => exact hq
  | region _ _ d => cases d <;> simp [strip] at e
  | _ => simp [strip] at e
theorem TS.block {id : Nat} {x : SC} (h : TS n wr x st (blockE id Q)) : TS n wr (.bl id x) st Q := by
  intro cd e
  cases cd with
  | block id b =>
    simp only [strip, SC.bl.injEq] at e
    obtain ⟨rfl, rfl⟩ := e; exact T.block (h _ rfl)
  | region _ _ d => cases d <;> simp [strip] at e
  | _ => simp [strip] at e
theorem TS.loop {α : Type} {c : SC} (l : α → List (Nat × IV)) (mm : α → Mem) (I : α → Prop) (μ : α → Nat) (x0 : α) (uniq : ∀ y, ∀ p ∈ l y, ∀ q ∈ l y, p.1 = q.1 → p.2 = q.2) (h0 : Has (l x0) st ∧ st.m = mm x0 ∧ I x0)
    (round : ∀ x s, Has (l x) s → s.m = mm x → I x → TS n wr c s (thenE (fun s' => ∃ no nr y, DropW (mm x) no nr s'.m (mm y) ∧ (∀ p ∈ l y, (s'.t p.1 = p.2 ∨ (s'.t p.1).sh = p.2) ∧ p.2.np no nr = true) ∧ I y ∧ μ y < μ x) Q)) : TS n wr (.lp c) st Q := by
  intro cd e
  cases cd with
  | loop b =>
    simp only [strip, SC.lp.injEq] at e
    subst e; exact T.loop l mm I μ x0 uniq h0 fun x s h1 h2 h3 => round x s h1 h2 h3 _ rfl
  | region _ _ d => cases d <;> simp [strip] at e
  | _ => simp [strip] at e
def Ws (n : Nat) (ro : List Nat) : SC → (Exit → St → Prop) → St → Prop
  | .sk, Q, st => Q .normal st
  | .rg ops, Q, st => Ops n ro ops st (Q .normal)
  | .sq a b, Q, st => Ws n ro a (thenE (fun s => Ws n ro b Q s) Q) st
  | .cd c x y, Q, st => match st.ev c with
    | .v (.bool t) => (t = true → Ws n ro x Q st) ∧ (t = false → Ws n ro y Q st)
    | _ => False
  | .bl id b, Q, st => Ws n ro b (blockE id Q) st
  | .ex id, Q, st => Q (.exit id) st
  | .rt, Q, st => Q .ret st
  | .lb, Q, st => Q .normal st
  | .gt l, Q, st => Q (.goto l) st
  | .dr raw ops, Q, st => ∃ refs A, chk ro refs A raw = true ∧ OpsR n ro refs ops st (Q .normal)
  | _, _, _ => False
def nc (n : Nat) (ro : List Nat) (c : IV) (x y : SC) (Q : Exit → St → Prop) (st : St) : Prop := match c with
  | .v (.bool t) => (t = true → Ws n ro x Q st) ∧ (t = false → Ws n ro y Q st)
  | _ => False
def thn (n : Nat) (ro : List Nat) (b : SC) (Q : Exit → St → Prop) : Exit → St → Prop := thenE (fun s => Ws n ro b Q s) Q
theorem W_sk : Ws n ro .sk Q st = Q .normal st := rfl
theorem W_rg {os : List SO} : Ws n ro (.rg os) Q st = ops n ro os st Q := rfl
/-- A drawn region: the slots whose loads cannot change, the bits of what stands before each operation, then the run in the text's order. -/
def drn (n : Nat) (ro : List Nat) (raw : Array Oper) (os : List SO) (st : St) (Q : Exit → St → Prop) : Prop := ∃ refs A, chk ro refs A raw = true ∧ OpsR n ro refs os st (Q .normal)
def opsd (n : Nat) (ro : List Nat) (refs : Rf) (os : List SO) (st : St) (Q : Exit → St → Prop) : Prop := OpsR n ro refs os st (Q .normal)
def d1 (g : Option Bool) (op : Op) (n : Nat) (ro : List Nat) (refs : Rf) (d : Option Tmp) (st : St) (os : List SO) (Q : Exit → St → Prop) : Prop := OpsR n ro refs [] st (fun _ => True) ∧ (match g with
  | some true => ∃ v m', (effN (nxt ro d st op) st v m' ∧ refOK refs d st op) ∧ OpsR n ro refs os (St.put ⟨st.t, m'⟩ d v) (Q .normal)
  | some false => OpsR n ro refs os (st.put d und) (Q .normal)
  | none => False)
def d2 (x : Nx) (p : Prop) (n : Nat) (ro : List Nat) (refs : Rf) (d : Option Tmp) (st : St) (os : List SO) (Q : Exit → St → Prop) : Prop := ∃ v m', (effN x st v m' ∧ p) ∧ OpsR n ro refs os (St.put ⟨st.t, m'⟩ d v) (Q .normal)
def cald (f : Nat) (args : List IV) (p : Prop) (n : Nat) (ro : List Nat) (refs : Rf) (st : St) (d : Option Tmp) (os : List SO) (Q : Exit → St → Prop) : Prop := d2 (.call f args) p n ro refs d st os Q
section
variable {refs : Rf} {d : Option Tmp} {os : List SO}
theorem W_dr {raw : Array Oper} : Ws n ro (.dr raw os) Q st = drn n ro raw os st Q := rfl
theorem drn_of {raw : Array Oper} (refs : Rf) (A : List Nat) (h1 : chk ro refs A raw = true) (h2 : opsd n ro refs os st Q) : drn n ro raw os st Q := ⟨refs, A, h1, h2⟩
theorem opsd_nil : opsd n ro refs [] st Q = Q .normal st := rfl
theorem opsd_cons {op : Op} {g : Option (Option Tmp × Bool)} : opsd n ro refs (⟨d, op, g⟩ :: os) st Q = (dstOK n d = true ∧ d1 (gv g st) op n ro refs d st os Q) := by
  refine propext ⟨fun h => ⟨h.1, trivial, ?_⟩, fun h => ⟨h.1, ?_⟩⟩
  · obtain ⟨_, v, m', he, h⟩ := h
    unfold eff at he
    dsimp only at he
    split at he
    · rename_i e; rw [e]; exact ⟨v, m', he, h⟩
    · rename_i e; rw [e]; obtain ⟨rfl, rfl⟩ := he; exact h
    · exact he.elim
  · obtain ⟨_, -, h⟩ := h
    split at h
    · rename_i e
      obtain ⟨v, m', he, h⟩ := h
      exact ⟨v, m', by unfold eff; dsimp only; rw [e]; exact he, h⟩
    · rename_i e
      exact ⟨und, st.m, by unfold eff; dsimp only; rw [e]; exact ⟨rfl, rfl⟩, h⟩
    · exact h.elim
theorem d1_true {op : Op} : d1 (some true) op n ro refs d st os Q = d2 (nxt ro d st op) (refOK refs d st op) n ro refs d st os Q := by
  unfold d1 d2; simp [OpsR]
theorem d1_false {op : Op} : d1 (some false) op n ro refs d st os Q = opsd n ro refs os (st.put d und) Q := by
  unfold d1 opsd; simp [OpsR]
theorem h1_dec {p : Prop} [Decidable p] {op : Op} : h1 (some (decide p)) op n ro d st os Q = ((p → h3 (nyt ro d st op) n ro d st os Q) ∧ (¬p → ops n ro os (st.put d und) Q)) := by
  by_cases h : p
  · simp only [h, decide_true, h1_true, forall_const, not_true_eq_false, false_implies, and_true]
  · simp only [h, decide_false, h1_false, forall_const, not_false_eq_true, false_implies, true_and]
theorem h1_not {p : Prop} [Decidable p] {op : Op} : h1 (some (!decide p)) op n ro d st os Q = ((¬p → h3 (nyt ro d st op) n ro d st os Q) ∧ (p → ops n ro os (st.put d und) Q)) := by
  by_cases h : p
  · simp only [h, decide_true, Bool.not_true, h1_false, forall_const, not_true_eq_false, false_implies, true_and]
  · simp only [h, decide_false, Bool.not_false, h1_true, forall_const, not_false_eq_true, false_implies, and_true]
theorem d1_dec {p : Prop} [Decidable p] {op : Op} : d1 (some (decide p)) op n ro refs d st os Q = ((p → d2 (nxt ro d st op) (refOK refs d st op) n ro refs d st os Q) ∧ (¬p → opsd n ro refs os (st.put d und) Q)) := by
  by_cases h : p
  · simp only [h, decide_true, d1_true, forall_const, not_true_eq_false, false_implies, and_true]
  · simp only [h, decide_false, d1_false, forall_const, not_false_eq_true, false_implies, true_and]
theorem d1_not {p : Prop} [Decidable p] {op : Op} : d1 (some (!decide p)) op n ro refs d st os Q = ((¬p → d2 (nxt ro d st op) (refOK refs d st op) n ro refs d st os Q) ∧ (p → opsd n ro refs os (st.put d und) Q)) := by
  by_cases h : p
  · simp only [h, decide_true, Bool.not_true, d1_false, forall_const, not_true_eq_false, false_implies, true_and]
  · simp only [h, decide_false, Bool.not_false, d1_true, forall_const, not_false_eq_true, false_implies, and_true]
theorem d2_val {q p : Prop} {x : IV} {m : Mem} : d2 (.val (some ⟨q, x, m⟩)) p n ro refs d st os Q = (q ∧ p ∧ opsd n ro refs os (St.put ⟨st.t, m⟩ d x) Q) := by
  refine propext ⟨fun h => ?_, fun h => ?_⟩
  · obtain ⟨v, m', ⟨⟨h1, rfl, rfl⟩, h3⟩, h⟩ := h; exact ⟨h1, h3, h⟩
  · exact ⟨x, m, ⟨⟨h.1, rfl, rfl⟩, h.2.1⟩, h.2.2⟩
theorem d2_call {f : Nat} {args : List IV} {p : Prop} : d2 (.call f args) p n ro refs d st os Q = cald f args p n ro refs st d os Q := rfl
theorem cald_eq {f : Nat} {args : List IV} {p : Prop} {r0 : IV} {m0 : Mem} (h : Sim f args st.m (fun r m' => r = r0 ∧ m' = m0)) (hk : opsd n ro refs os (St.put ⟨st.t, m0⟩ d r0) Q) (hp : p := by exact True.intro) (hq : quiet f = true → m0 = st.m := by first | (intro _; rfl) | (intro h; cases h)) (hst : stab f = true → ∀ X : List IObj, Sim f args ⟨st.m.objs ++ X, st.m.rows⟩ (fun r m => r = r0 ∧ m = ⟨st.m.objs ++ X, st.m.rows⟩) := by (intro h; cases h)) : cald f args p n ro refs st d os Q :=
  ⟨r0, m0, ⟨⟨h, hq, hst⟩, hp⟩, hk⟩
theorem cald_eqS {f : Nat} {args : List IV} {p : Prop} {r0 : IV} (h : ∀ m, Sim f args m (fun r m' => r = r0 ∧ m' = m)) (hk : opsd n ro refs os (St.put ⟨st.t, st.m⟩ d r0) Q) (hp : p := by exact True.intro) : cald f args p n ro refs st d os Q :=
  ⟨r0, st.m, ⟨⟨h _, fun _ => rfl, fun _ _ => h _⟩, hp⟩, hk⟩
end
theorem W_sq {a b : SC} : Ws n ro (.sq a b) Q st = Ws n ro a (thn n ro b Q) st := rfl
theorem W_cd {c : Operand} {x y : SC} : Ws n ro (.cd c x y) Q st = nc n ro (st.ev c) x y Q st := rfl
theorem W_bl {id : Nat} {b : SC} : Ws n ro (.bl id b) Q st = Ws n ro b (blockE id Q) st := rfl
theorem W_ex {id : Nat} : Ws n ro (.ex id) Q st = Q (.exit id) st := rfl
theorem W_rt : Ws n ro .rt Q st = Q .ret st := rfl
theorem W_lb : Ws n ro .lb Q st = Q .normal st := rfl
theorem W_gt {l : Nat} : Ws n ro (.gt l) Q st = Q (.goto l) st := rfl
theorem nc_true {x y : SC} : nc n ro (.v (.bool true)) x y Q st = Ws n ro x Q st := by simp [nc]
theorem nc_false {x y : SC} : nc n ro (.v (.bool false)) x y Q st = Ws n ro y Q st := by simp [nc]
theorem nc_dec {p : Prop} [Decidable p] {x y : SC} : nc n ro (.v (.bool (decide p))) x y Q st = ((p → Ws n ro x Q st) ∧ (¬p → Ws n ro y Q st)) := by simp [nc]
theorem nc_not {p : Prop} [Decidable p] {x y : SC} : nc n ro (.v (.bool (!decide p))) x y Q st = ((¬p → Ws n ro x Q st) ∧ (p → Ws n ro y Q st)) := by simp [nc]
theorem thn_n {b : SC} : thn n ro b Q .normal st = Ws n ro b Q st := rfl
theorem thn_x {b : SC} {id : Nat} : thn n ro b Q (.exit id) st = Q (.exit id) st := rfl
theorem thn_g {b : SC} {id : Nat} : thn n ro b Q (.goto id) st = Q (.goto id) st := rfl
theorem thn_r {b : SC} : thn n ro b Q .ret st = Q .ret st := rfl
theorem blk_n {id : Nat} : blockE id Q .normal st = Q .normal st := rfl
theorem blk_x {id id' : Nat} : blockE id Q (.exit id') st = if id' = id then Q .normal st else Q (.exit id') st := rfl
theorem blk_g {id l : Nat} : blockE id Q (.goto l) st = Q (.goto l) st := rfl
theorem blk_r {id : Nat} : blockE id Q .ret st = Q .ret st := rfl
theorem Ws.sound : ∀ (cd : Code) (Q : Exit → St → Prop) (st : St), Ws n ro (strip cd) Q st → T n wr cd st Q
  | .skip, Q, st, h => T.skip h
  | .region _ ops false, Q, st, h => fun κ a w hr => wp_region_list (ops_sound ops.toList st κ a w (Ev.refl _ _ _) hr h)
  | .region _ ops true, Q, st, h => by simp only [strip, Ws] at h; obtain ⟨refs, A, h1, h2⟩ := h; exact T.drawn h1 h2
  | .seq a b, Q, st, h => by
    simp only [strip, Ws] at h
    refine T.seq ((Ws.sound a _ st h).mono fun e s hq => ?_)
    cases e with
    | normal => exact Ws.sound b Q s hq
    | _ => exact hq
  | .cond c x y, Q, st, h => by
    simp only [strip, Ws] at h
    split at h
    · rename_i t ht
      refine T.cond ht ?_
      cases t
      · exact Ws.sound y Q st (h.2 rfl)
      · exact Ws.sound x Q st (h.1 rfl)
    · exact h.elim
  | .block id b, Q, st, h => by simp only [strip, Ws] at h; exact T.block (Ws.sound b _ st h)
  | .exit id, Q, st, h => by simp only [strip, Ws] at h; exact T.exit h
  | .ret, Q, st, h => by simp only [strip, Ws] at h; exact T.ret h
  | .label _, Q, st, h => by simp only [strip, Ws] at h; exact T.label h
  | .goto l, Q, st, h => by simp only [strip, Ws] at h; exact T.goto h
  | .loop _, Q, st, h => by simp only [strip, Ws] at h
  | .rangeFunc .., Q, st, h => by simp only [strip, Ws] at h
  | .scope _, Q, st, h => by simp only [strip, Ws] at h
  | .refuse _, Q, st, h => by simp only [strip, Ws] at h
theorem TS.of {sc : SC} (ro : List Nat) (h : ∀ Q', (∀ e s, Q e s → Q' e s) → Ws n ro sc Q' st) : TS n wr sc st Q := fun cd e => Ws.sound cd Q st (e ▸ h Q fun _ _ x => x)
theorem TS.cond {c : Operand} {x y : SC} {t : Bool} (hc : st.ev c = .v (.bool t)) (h : TS n wr (if t then x else y) st Q) : TS n wr (.cd c x y) st Q := by
  intro cd e
  cases cd with
  | cond c a b =>
    simp only [strip, SC.cd.injEq] at e
    obtain ⟨rfl, rfl, rfl⟩ := e
    refine T.cond hc ?_
    cases t
    · exact h _ rfl
    · exact h _ rfl
  | region _ _ d => cases d <;> simp [strip] at e
  | _ => simp [strip] at e
end
/-- What must hold where a function ends. -/
def Post (m : Mem) (rs : List ResultVar) (R : IV → Mem → Prop) (e : Exit) (s : St) : Prop := (e = .normal ∨ e = .ret) ∧ ∃ r no nr m', res s rs = some r ∧ r.np no nr = true ∧ DropW m no nr s.m m' ∧ R r m'
theorem post_ret {m m' : Mem} {rs : List ResultVar} {R : IV → Mem → Prop} {s : St} (no nr : Nat) (r : IV) (h1 : res s rs = some r) (h2 : r.np no nr = true) (h3 : DropW m no nr s.m m') (h4 : R r m') : Post m rs R .ret s := ⟨.inr rfl, r, no, nr, m', h1, h2, h3, h4⟩
theorem post_end {m m' : Mem} {rs : List ResultVar} {R : IV → Mem → Prop} {s : St} (no nr : Nat) (r : IV) (h1 : res s rs = some r) (h2 : r.np no nr = true) (h3 : DropW m no nr s.m m') (h4 : R r m') : Post m rs R .normal s := ⟨.inl rfl, r, no, nr, m', h1, h2, h3, h4⟩
/-- Nothing has been made that stays. -/
theorem DropW.same {m m' : Mem} (h : m' = m) : DropW m m.objs.length m.rows.length m' m := h ▸ DropW.refl m
theorem DropW.tail {m m' : Mem} (xs : List IObj) (rs : List Nat) (h : m' = ⟨m.objs ++ xs, m.rows ++ rs⟩) : DropW m m.objs.length m.rows.length m' m :=
  ⟨by rw [h]; simp, by rw [h]; simp, Nat.le_refl _, Nat.le_refl _, fun o x hx hl => .inl (by rw [h] at hx; simpa [List.getElem?_append_left hl] using hx)⟩
theorem Sim.ofS {f : FuncId} {args : List IV} {m : Mem} {R : IV → Mem → Prop} {fn : Func} {cd : Code} (n : Nat) (rs : List ResultVar) (hf : P.funcs[f]? = some fn) (hb : fn.body = some cd) (hnt : fn.ntmps = n) (hrs : fn.results.toList = rs) (hn : args.length ≤ n)
    (h : ∀ wr, TS n wr (strip cd) ⟨argsT args, m⟩ (Post m rs R)) : Sim f args m R := by
  subst hnt hrs
  exact Sim.of hf hb hn fun wr => h wr cd rfl
theorem DropW.tail0 {m m' : Mem} (xs : List IObj) (h : m' = ⟨m.objs ++ xs, m.rows⟩) : DropW m m.objs.length m.rows.length m' m := DropW.tail xs [] (by rw [h]; simp)
theorem DropW.loc (o a b r : List IObj) (R0 R1 R2 : List Nat) (h1 : a.length ≤ b.length) (h2 : ∀ x ∈ b, x.np (o.length + b.length) R1.length = true) (h3 : R0.length ≤ R1.length) (h4 : R2.take R1.length = R1) : DropW ⟨o ++ a, R0⟩ (o.length + b.length) R1.length ⟨o ++ (b ++ r), R2⟩ ⟨o ++ b, R1⟩ := by
  refine ⟨?_, h4.symm, by simp only [List.length_append]; omega, h3, fun i x hx hl => ?_⟩
  · simp only
    rw [← List.append_assoc, List.take_left' (by simp)]
  · simp only at hx ⊢
    by_cases hi : i < o.length
    · left
      rw [List.getElem?_append_left hi] at hx ⊢
      exact hx
    · right
      rw [List.getElem?_append_right (by omega), List.getElem?_append_left (by omega)] at hx
      exact h2 x (List.mem_of_getElem? hx)
theorem at_last {α : Type} {l : List α} {x : α} : (l ++ [x])[l.length]? = some x := by simp
theorem set_last {α : Type} {l : List α} {x y : α} : (l ++ [x]).set l.length y = l ++ [y] := by simp
theorem obj_at {α : Type} {l r : List α} {k : Nat} : (l ++ r)[l.length + k]? = r[k]? := by simp [List.getElem?_append_right]
theorem obj_at0 {α : Type} {l r : List α} : (l ++ r)[l.length]? = r[0]? := by simp [List.getElem?_append_right]
theorem obj_set {α : Type} {l r : List α} {k : Nat} {x : α} : (l ++ r).set (l.length + k) x = l ++ r.set k x := by rw [List.set_append, if_neg (by omega)]; congr 2; omega
theorem obj_set0 {α : Type} {l r : List α} {x : α} : (l ++ r).set l.length x = l ++ r.set 0 x := by rw [List.set_append, if_neg (by omega)]; congr 2; omega
attribute [go_sem] stdOK keepOK memL keepL res resL res1 obj_at obj_at0 obj_set obj_set0 List.append_assoc List.length_append List.set_cons_succ List.set_cons_zero Value.oneCell' fillI splice Z zStr nilS Mem.at_ at_last set_last Option.map_some List.replicate List.length_nil List.length_cons List.all_cons List.all_nil Bool.and_true Bool.and_self W_dr opsd_nil opsd_cons d1_true d1_false d2_val d2_call refOK callOK quietV isRef W_rg W_sq W_cd W_sk W_ex W_bl W_rt W_lb W_gt nc_true nc_false nc_dec nc_not thn_n thn_x thn_r thn_g blk_n blk_x blk_r blk_g ops_cons ops_nil h1_true h1_false h3_old h3_nd nyt nyC nyB nilN vecN h2_val h2_call gv_none gv_some gvb_t gvb_f gvb_u nxt nxC callN stepR stepB St.ev ivc ivc1 dst_some dst_none put_some put_some' put_none true_and and_true upd_apply sel ty fld arr bld zer ibin sbin wh decide_true decide_false Bool.not_true Bool.not_false Bool.not_not Int.ofNat_lt ldc ldv IV.off List.head? Int.toNat_natCast List.drop_zero List.cons_append List.nil_append Int.natCast_nonneg strip stO stG List.getElem?_toArray List.getElem?_cons_succ List.getElem?_cons_zero Option.bind_some argsT List.getD_cons_zero List.getD_cons_succ List.getD_nil reduceIte argW IV.sh IV.cells IV.one fOK ikind ifT isLit eqv isRo List.drop_succ_cons List.take_succ_cons List.take_zero List.map_cons List.map_nil List.drop_nil Bool.false_eq_true
attribute [go_sem] true_or or_true Int.cast_ofNat_Int not_true_eq_false true_implies forall_const not_false_eq_true List.size_toArray Array.size_empty and_self ne_eq Nat.mul_one List.contains_nil List.contains_cons Bool.false_or Bool.or_false false_implies implies_true beq_self_eq_true Int.ofNat_le List.length_cons List.length_nil
end Go.Proofs.Ytphjldhdnmoolaa.A
/- Words: trees as data, and as values without addresses. -/
namespace Go.Proofs.Ytphjldhdnmoolaa.A
open Go
abbrev Bytes := ByteArray
inductive Expr where
  | mk (k n : Int) (s : Bytes) (a : List Expr) (p : Int)
inductive Stmt where
  | mk (k : Int) (s : Bytes) (x : List Expr) (n : Int) (b e : List Stmt) (p : Int)
structure Def where
  name : Bytes
  params : List Bytes
  needs : List Expr
  body : List Stmt
  give : List Expr
structure Tok where
  k : Int
  s : Bytes
  p : Int
def Expr.k : Expr → Int | .mk k _ _ _ _ => k
def Expr.n : Expr → Int | .mk _ n _ _ _ => n
def Expr.s : Expr → Bytes | .mk _ _ s _ _ => s
def Expr.a : Expr → List Expr | .mk _ _ _ a _ => a
def Expr.p : Expr → Int | .mk _ _ _ _ p => p
def Stmt.k : Stmt → Int | .mk k _ _ _ _ _ _ => k
def Stmt.s : Stmt → Bytes | .mk _ s _ _ _ _ _ => s
def Stmt.x : Stmt → List Expr | .mk _ _ x _ _ _ _ => x
def Stmt.n : Stmt → Int | .mk _ _ _ n _ _ _ => n
def Stmt.b : Stmt → List Stmt | .mk _ _ _ _ b _ _ => b
def Stmt.e : Stmt → List Stmt | .mk _ _ _ _ _ e _ => e
def Stmt.p : Stmt → Int | .mk _ _ _ _ _ _ p => p
abbrev ii (n : Int) : IV := .v (.int .i64 n)
abbrev bb (b : Bool) : IV := .v (.bool b)
abbrev ss (s : Bytes) : IV := .v (.string s)
mutual
def encE : Expr → List IV
  | .mk k n s a p => [ii k, ii n, ss s, .sl .sh a.length (encEs a), ii p]
def encEs : List Expr → List IV
  | [] => []
  | e :: l => encE e ++ encEs l
end
abbrev slE (l : List Expr) : IV := .sl .sh l.length (encEs l)
mutual
def encT : Stmt → List IV
  | .mk k s x n b e p => [ii k, ss s, slE x, ii n, .sl .sh b.length (encTs b), .sl .sh e.length (encTs e), ii p]
def encTs : List Stmt → List IV
  | [] => []
  | e :: l => encT e ++ encTs l
end
abbrev slT (l : List Stmt) : IV := .sl .sh l.length (encTs l)
abbrev slS (l : List Bytes) : IV := .sl .sh l.length (l.map (IV.v <| .string ·))
def encK : List Tok → List IV
  | [] => []
  | t :: l => [ii t.k, ss t.s, ii t.p] ++ encK l
abbrev slK (l : List Tok) : IV := .sl .sh l.length (encK l)
abbrev encD (d : Def) : List IV := [ss d.name, slS d.params, slE d.needs, slT d.body, slE d.give]
theorem encE_eq (e : Expr) : encE e = [ii e.k, ii e.n, ss e.s, slE e.a, ii e.p] := by cases e; rfl
theorem encT_eq (e : Stmt) : encT e = [ii e.k, ss e.s, slE e.x, ii e.n, slT e.b, slT e.e, ii e.p] := by cases e; rfl
theorem encEs_length : ∀ l : List Expr, (encEs l).length = l.length * 5
  | [] => rfl
  | e :: l => by simp only [encEs, List.length_append, encE_eq, List.length_cons, List.length_nil, encEs_length l]; omega
theorem encTs_length : ∀ l : List Stmt, (encTs l).length = l.length * 7
  | [] => rfl
  | e :: l => by simp only [encTs, List.length_append, encT_eq, List.length_cons, List.length_nil, encTs_length l]; omega
theorem encK_length : ∀ l : List Tok, (encK l).length = l.length * 3
  | [] => rfl
  | e :: l => by simp only [encK, List.length_append, List.length_cons, List.length_nil, encK_length l]; omega
theorem encEs_drop : ∀ (l : List Expr) (j : Nat), (encEs l).drop (j * 5) = encEs (l.drop j)
  | l, 0 => by simp
  | [], j + 1 => by simp [encEs]
  | e :: l, j + 1 => by rw [show (j + 1) * 5 = 5 + j * 5 by omega, ← List.drop_drop]; simp [encEs, encE_eq, encEs_drop l j]
theorem encTs_drop : ∀ (l : List Stmt) (j : Nat), (encTs l).drop (j * 7) = encTs (l.drop j)
  | l, 0 => by simp
  | [], j + 1 => by simp [encTs]
  | e :: l, j + 1 => by rw [show (j + 1) * 7 = 7 + j * 7 by omega, ← List.drop_drop]; simp [encTs, encT_eq, encTs_drop l j]
theorem encK_drop : ∀ (l : List Tok) (j : Nat), (encK l).drop (j * 3) = encK (l.drop j)
  | l, 0 => by simp
  | [], j + 1 => by simp [encK]
  | e :: l, j + 1 => by rw [show (j + 1) * 3 = 3 + j * 3 by omega, ← List.drop_drop]; simp [encK, encK_drop l j]
theorem encEs_app : ∀ (l l' : List Expr), encEs (l ++ l') = encEs l ++ encEs l'
  | [], l' => rfl
  | e :: l, l' => by simp [encEs, encEs_app l l']
theorem encTs_app : ∀ (l l' : List Stmt), encTs (l ++ l') = encTs l ++ encTs l'
  | [], l' => rfl
  | e :: l, l' => by simp [encTs, encTs_app l l']
theorem encK_app : ∀ (l l' : List Tok), encK (l ++ l') = encK l ++ encK l'
  | [], l' => rfl
  | e :: l, l' => by simp [encK, encK_app l l']
theorem encEs_at {l : List Expr} {j : Nat} {e : Expr} (h : l[j]? = some e) : (encEs l).drop (j * 5) = [ii e.k, ii e.n, ss e.s, slE e.a, ii e.p] ++ encEs (l.drop (j + 1)) := by
  obtain ⟨hj, rfl⟩ := List.getElem?_eq_some_iff.1 h
  rw [encEs_drop, List.drop_eq_getElem_cons hj, encEs, encE_eq]
theorem encTs_at {l : List Stmt} {j : Nat} {e : Stmt} (h : l[j]? = some e) : (encTs l).drop (j * 7) = [ii e.k, ss e.s, slE e.x, ii e.n, slT e.b, slT e.e, ii e.p] ++ encTs (l.drop (j + 1)) := by
  obtain ⟨hj, rfl⟩ := List.getElem?_eq_some_iff.1 h
  rw [encTs_drop, List.drop_eq_getElem_cons hj, encTs, encT_eq]
theorem encK_at {l : List Tok} {j : Nat} {e : Tok} (h : l[j]? = some e) : (encK l).drop (j * 3) = [ii e.k, ss e.s, ii e.p] ++ encK (l.drop (j + 1)) := by
  obtain ⟨hj, rfl⟩ := List.getElem?_eq_some_iff.1 h
  rw [encK_drop, List.drop_eq_getElem_cons hj, encK]
mutual
theorem npE (no nr : Nat) : ∀ e : Expr, npL no nr (encE e) = true
  | .mk k n s a p => by simp [encE, npL, IV.np, SK.np, npEs no nr a]
theorem npEs (no nr : Nat) : ∀ l : List Expr, npL no nr (encEs l) = true
  | [] => by simp [encEs, npL]
  | e :: l => by
    have h1 := npE no nr e
    have h2 := npEs no nr l
    rw [encEs]
    have app : ∀ x y : List IV, npL no nr x = true → npL no nr y = true → npL no nr (x ++ y) = true := by
      intro x y hx hy
      induction x with
      | nil => simpa using hy
      | cons a x ih => simp only [List.cons_append, npL, Bool.and_eq_true] at *; exact ⟨hx.1, ih hx.2⟩
    exact app _ _ h1 h2
end
theorem npL_app {no nr : Nat} : ∀ {x y : List IV}, npL no nr x = true → npL no nr y = true → npL no nr (x ++ y) = true
  | [], y, _, hy => by simpa using hy
  | a :: x, y, hx, hy => by simp only [List.cons_append, npL, Bool.and_eq_true] at *; exact ⟨hx.1, npL_app hx.2 hy⟩
mutual
theorem npT (no nr : Nat) : ∀ e : Stmt, npL no nr (encT e) = true
  | .mk k s x n b e p => by simp [encT, npL, IV.np, SK.np, npEs no nr x, npTs no nr b, npTs no nr e]
theorem npTs (no nr : Nat) : ∀ l : List Stmt, npL no nr (encTs l) = true
  | [] => by simp [encTs, npL]
  | e :: l => by rw [encTs]; exact npL_app (npT no nr e) (npTs no nr l)
end
theorem npK (no nr : Nat) : ∀ l : List Tok, npL no nr (encK l) = true
  | [] => by simp [encK, npL]
  | e :: l => by rw [encK]; exact npL_app (by simp [npL, IV.np]) (npK no nr l)
theorem npS (no nr : Nat) : ∀ l : List Bytes, npL no nr (l.map (IV.v <| .string ·)) = true
  | [] => by simp [npL]
  | e :: l => by simp [npL, IV.np, npS no nr l]
theorem npI (no nr : Nat) : ∀ l : List Int, npL no nr (l.map (IV.v <| .int .i64 ·)) = true
  | [] => by simp [npL]
  | e :: l => by simp [npL, IV.np, npI no nr l]
/-! sizes -/
mutual
def szE : Expr → Nat
  | .mk _ _ _ a _ => szs a + 1
def szs : List Expr → Nat
  | [] => 0
  | e :: l => szE e + szs l
end
mutual
def szT : Stmt → Nat
  | .mk _ _ x _ b e _ => szs x + szt b + szt e + 1
def szt : List Stmt → Nat
  | [] => 0
  | e :: l => szT e + szt l
end
theorem szE_eq (e : Expr) : szE e = szs e.a + 1 := by cases e; rfl
theorem szT_eq (e : Stmt) : szT e = szs e.x + szt e.b + szt e.e + 1 := by cases e; rfl
theorem szs_len : ∀ l : List Expr, l.length ≤ szs l
  | [] => by simp [szs]
  | e :: l => by have := szs_len l; simp only [szs, szE_eq, List.length_cons]; omega
theorem szt_len : ∀ l : List Stmt, l.length ≤ szt l
  | [] => by simp [szt]
  | e :: l => by have := szt_len l; simp only [szt, szT_eq, List.length_cons]; omega
theorem szs_at : ∀ {l : List Expr} {k : Nat} {e : Expr}, l[k]? = some e → szs e.a < szs l
  | [], k, e, h => by simp at h
  | x :: l, 0, e, h => by simp at h; subst h; simp only [szs, szE_eq]; omega
  | x :: l, k + 1, e, h => by simp at h; have := szs_at h; simp only [szs]; omega
theorem szE_at : ∀ {l : List Expr} {k : Nat} {e : Expr}, l[k]? = some e → szE e ≤ szs l
  | [], k, e, h => by simp at h
  | x :: l, 0, e, h => by simp at h; subst h; simp only [szs]; omega
  | x :: l, k + 1, e, h => by simp at h; have := szE_at h; simp only [szs]; omega
theorem szT_at : ∀ {l : List Stmt} {k : Nat} {e : Stmt}, l[k]? = some e → szT e ≤ szt l
  | [], k, e, h => by simp at h
  | x :: l, 0, e, h => by simp at h; subst h; simp only [szt]; omega
  | x :: l, k + 1, e, h => by simp at h; have := szT_at h; simp only [szt]; omega
theorem wrap_small {a : Int} (h0 : -4000000000000000000 ≤ a) (h1 : a ≤ 4000000000000000000) : IntKind.i64.wrap a = a := by
  simp [IntKind.wrap, IntKind.bits, IntKind.signed]
  omega
theorem wrap_succ {k n : Nat} (h : k < n) (hn : n < 1000000) : IntKind.i64.wrap ((k : Int) + 1) = ((k + 1 : Nat) : Int) := by
  rw [wrap_small (by omega) (by omega)]; omega
end Go.Proofs.Ytphjldhdnmoolaa.A
/- The walks of some functions over the abstract machine. -/
namespace Go.Proofs.Ytphjldhdnmoolaa.A
open Go
/-! bytes as lists -/
def L (s : Bytes) : List UInt8 := s.data.toList
theorem L_len (s : Bytes) : (L s).length = s.size := by unfold L; rw [Array.length_toList]; rfl
theorem L_at (s : Bytes) (k : Nat) : s[k]? = (L s)[k]? := by
  unfold L
  rw [Array.getElem?_toList]
  rfl
def hasB (set : Bytes) (c : Int) : Bool := (L set).any fun b => decide ((b.toNat : Int) = c)
def allB (s set : Bytes) : Bool := (L s).all fun b => hasB set b.toNat
def kw (s : Bytes) : Bool := decide (s = ⟨#[111, 112]⟩) || decide (s = ⟨#[110, 101, 101, 100]⟩) || decide (s = ⟨#[108, 101, 116]⟩) || decide (s = ⟨#[105, 102]⟩)
  || decide (s = ⟨#[101, 108, 115, 101]⟩) || decide (s = ⟨#[102, 111, 114]⟩) || decide (s = ⟨#[105, 110]⟩) || decide (s = ⟨#[103, 105, 118, 101]⟩) || decide (s = ⟨#[116, 114, 117, 101]⟩) || decide (s = ⟨#[102, 97, 108, 115, 101]⟩)
set_option maxRecDepth 100000 in
set_option maxHeartbeats 4000000 in
theorem kw_sim (m : Mem) (s : Bytes) : Sim 33 [ss s] m (fun r m' => r = bb (kw s) ∧ m' = m) := by
  refine Sim.ofS 15 [.tmp 2] Try.func33 rfl rfl rfl (by simp) fun wr => ?_
  simp only [go_sem, Nat.reduceEqDiff, Nat.reduceBEq, Int.reduceToNat, Int.reduceLT, Int.reduceLE, Int.reduceEq, Nat.reduceLeDiff, Nat.reduceLT, Nat.reduceMul, Nat.reduceAdd, String.reduceEq]
  refine TS.of [] fun Q hQ => ?_
  simp only [go_sem, Nat.reduceEqDiff, Nat.reduceBEq, Int.reduceToNat, Int.reduceLT, Int.reduceLE, Int.reduceEq, Nat.reduceLeDiff, Nat.reduceLT, Nat.reduceMul, Nat.reduceAdd, String.reduceEq]
  (repeat' first | refine And.intro ?_ ?_ | intro _)
  all_goals first | (exfalso; contradiction) | (refine hQ .ret _ ?_; refine post_ret _ _ _ rfl rfl (DropW.refl _) ⟨?_, rfl⟩; simp only [upd_apply, IV.sh, Nat.reduceEqDiff, if_true, if_false]; simp [kw, *])
def maxNum : Bytes := ⟨#[57, 50, 50, 51, 51, 55, 50, 48, 51, 54, 56, 53, 52, 55, 55, 53, 56, 48, 55]⟩
def numOK (s : Bytes) : Bool := !((decide (1 < s.size) && decide (s[0]? = some 48)) || decide (19 < s.size)) && (decide (s.size < 19) || (bytesLt s.toList maxNum.toList || decide (s = maxNum)))
set_option maxRecDepth 100000 in
set_option maxHeartbeats 4000000 in
theorem numOK_sim (m : Mem) (s : Bytes) (b : UInt8) (hb : s[0]? = some b) : Sim 67 [ss s] m (fun r m' => r = bb (numOK s) ∧ m' = m) := by
  refine Sim.ofS 23 [.tmp 2] Try.func67 rfl rfl rfl (by simp) fun wr => ?_
  simp only [go_sem, Nat.reduceEqDiff, Nat.reduceBEq, Int.reduceToNat, Int.reduceLT, Int.reduceLE, Int.reduceEq, Nat.reduceLeDiff, Nat.reduceLT, Nat.reduceMul, Nat.reduceAdd, String.reduceEq]
  have e48 : (b = 48) ↔ (b.toNat : Int) = 48 := by rw [← UInt8.toNat_inj]; simp; omega
  refine TS.of [] fun Q hQ => ?_
  by_cases h1 : (1 : Int) < s.size <;> by_cases h2 : (b.toNat : Int) = 48 <;> by_cases h3 : (19 : Int) < s.size <;> by_cases h4 : (s.size : Int) < 19 <;> simp only [go_sem, Nat.reduceEqDiff, Nat.reduceBEq, Int.reduceToNat, Int.reduceLT, Int.reduceLE, Int.reduceEq, Nat.reduceLeDiff, Nat.reduceLT, Nat.reduceMul, Nat.reduceAdd, String.reduceEq, hb, h1, h2, h3, h4]
  all_goals (have q1 : (1 < s.size) ↔ (1 : Int) < s.size := by omega)
  all_goals (have q3 : (19 < s.size) ↔ (19 : Int) < s.size := by omega)
  all_goals (have q4 : (s.size < 19) ↔ (s.size : Int) < 19 := by omega)
  (repeat' first | refine And.intro ?_ ?_ | intro _)
  all_goals first | (exfalso; contradiction) | (refine hQ .ret _ ?_; refine post_ret _ _ _ rfl rfl (DropW.refl _) ⟨?_, rfl⟩; simp only [upd_apply, IV.sh, Nat.reduceEqDiff, if_true, if_false]; simp [numOK, hb, q1, q3, q4, e48, h1, h2, h3, h4, maxNum] <;> congr)
/-! has, all -/
theorem hasB_take (s : Bytes) (c : Int) (k : Nat) (b : UInt8) (h : (L s)[k]? = some b) : ((L s).take (k + 1)).any (fun b => decide ((b.toNat : Int) = c)) = (((L s).take k).any (fun b => decide ((b.toNat : Int) = c)) || decide ((b.toNat : Int) = c)) := by
  rw [List.take_add_one, h]; simp
theorem any_of {α : Type} {l : List α} {k : Nat} {b : α} {p : α → Bool} (h : l[k]? = some b) (hp : p b = true) : l.any p = true :=
  List.any_eq_true.2 ⟨b, List.mem_of_getElem? h, hp⟩
theorem all_of {α : Type} {l : List α} {k : Nat} {b : α} {p : α → Bool} (h : l[k]? = some b) (hp : p b = false) : l.all p = false := by
  cases hq : l.all p with
  | false => rfl
  | true => rw [List.all_eq_true.1 hq b (List.mem_of_getElem? h)] at hp; cases hp
set_option maxRecDepth 100000 in
set_option maxHeartbeats 4000000 in
theorem has_sim (m : Mem) (s : Bytes) (c : Int) (hs : s.size < 900000) : Sim 89 [ss s, .v (.int .u8 c)] m (fun r m' => r = bb (hasB s c) ∧ m' = m) := by
  refine Sim.ofS 17 [.tmp 4] Try.func89 rfl rfl rfl (by simp) fun wr => ?_
  simp only [go_sem, Nat.reduceEqDiff, Nat.reduceBEq, Int.reduceToNat, Int.reduceLT, Int.reduceLE, Int.reduceEq, Nat.reduceLeDiff, Nat.reduceLT, Nat.reduceMul, Nat.reduceAdd, String.reduceEq]
  refine TS.seq (TS.of [] fun Q hQ => ?_)
  simp only [go_sem, Nat.reduceEqDiff, Nat.reduceBEq, Int.reduceToNat, Int.reduceLT, Int.reduceLE, Int.reduceEq, Nat.reduceLeDiff, Nat.reduceLT, Nat.reduceMul, Nat.reduceAdd, String.reduceEq]
  refine hQ .normal _ ?_; clear hQ Q
  refine TS.seq (TS.seq (TS.of [] fun Q hQ => ?_))
  simp only [go_sem, Nat.reduceEqDiff, Nat.reduceBEq, Int.reduceToNat, Int.reduceLT, Int.reduceLE, Int.reduceEq, Nat.reduceLeDiff, Nat.reduceLT, Nat.reduceMul, Nat.reduceAdd, String.reduceEq]
  refine hQ .normal _ ?_; clear hQ Q
  refine TS.block (TS.loop (α := Nat) (fun k => [(0, ss s), (1, .v (.int .u8 c)), (5, ii k)]) (fun _ => m) (fun k => k ≤ s.size ∧ ((L s).take k).any (fun b => decide ((b.toNat : Int) = c)) = false) (fun k => s.size - k) 0 (by simp) ⟨by simp [Has, upd_apply, argsT], rfl, by simp⟩ ?_)
  rintro k st hH hm ⟨hk, hc⟩
  simp only [Has, List.mem_cons, List.not_mem_nil, or_false, forall_eq_or_imp, forall_eq] at hH; obtain ⟨h0, h1, h5⟩ := hH
  by_cases hlt : k < s.size
  · obtain ⟨b, hb⟩ : ∃ b, (L s)[k]? = some b := ⟨_, List.getElem?_eq_getElem (by rw [L_len]; exact hlt)⟩
    have hb' : s[k]? = some b := by rw [L_at]; exact hb
    have hw := wrap_succ hlt (by omega)
    refine TS.of [] fun Q hQ => ?_
    by_cases he : (b.toNat : Int) = c
    · simp only [go_sem, Nat.reduceEqDiff, Nat.reduceBEq, Int.reduceToNat, Int.reduceLT, Int.reduceLE, Int.reduceEq, Nat.reduceLeDiff, Nat.reduceLT, Nat.reduceMul, Nat.reduceAdd, String.reduceEq, h0, h1, h5, hm, hlt, hb', he, hw]
      refine hQ .ret _ ?_; exact post_ret _ _ _ rfl rfl (DropW.refl _) ⟨by rw [show hasB s c = true from any_of hb (by simp [he])]; rfl, rfl⟩
    · simp only [go_sem, Nat.reduceEqDiff, Nat.reduceBEq, Int.reduceToNat, Int.reduceLT, Int.reduceLE, Int.reduceEq, Nat.reduceLeDiff, Nat.reduceLT, Nat.reduceMul, Nat.reduceAdd, String.reduceEq, h0, h1, h5, hm, hlt, hb', he, hw]
      refine hQ .normal _ ?_; clear hQ Q
      refine ⟨_, _, k + 1, DropW.refl m, ?_, ⟨hlt, by rw [hasB_take s c k b hb, hc]; simp [he]⟩, by omega⟩
      simp [upd_apply, h0, h1, IV.np]
  · refine TS.of [] fun Q hQ => ?_
    simp only [go_sem, Nat.reduceEqDiff, Nat.reduceBEq, Int.reduceToNat, Int.reduceLT, Int.reduceLE, Int.reduceEq, Nat.reduceLeDiff, Nat.reduceLT, Nat.reduceMul, Nat.reduceAdd, String.reduceEq, h0, h1, h5, hm, hlt]
    refine hQ (.exit 0) _ ?_; clear hQ Q
    refine TS.of [] fun Q hQ => ?_
    simp only [go_sem, Nat.reduceEqDiff, Nat.reduceBEq, Int.reduceToNat, Int.reduceLT, Int.reduceLE, Int.reduceEq, Nat.reduceLeDiff, Nat.reduceLT, Nat.reduceMul, Nat.reduceAdd, String.reduceEq]
    refine hQ .ret _ ?_; exact post_ret _ _ _ rfl rfl (DropW.refl _) ⟨by rw [List.take_of_length_le (by rw [L_len]; omega)] at hc; rw [hasB, hc]; rfl, rfl⟩
set_option maxRecDepth 100000 in
set_option maxHeartbeats 4000000 in
theorem all_sim (m : Mem) (s set : Bytes) (hs : s.size < 900000) (hset : set.size < 900000) : Sim 64 [ss s, ss set] m (fun r m' => r = bb (allB s set) ∧ m' = m) := by
  refine Sim.ofS 18 [.tmp 4] Try.func64 rfl rfl rfl (by simp) fun wr => ?_
  simp only [go_sem, Nat.reduceEqDiff, Nat.reduceBEq, Int.reduceToNat, Int.reduceLT, Int.reduceLE, Int.reduceEq, Nat.reduceLeDiff, Nat.reduceLT, Nat.reduceMul, Nat.reduceAdd, String.reduceEq]
  refine TS.seq (TS.of [] fun Q hQ => ?_)
  simp only [go_sem, Nat.reduceEqDiff, Nat.reduceBEq, Int.reduceToNat, Int.reduceLT, Int.reduceLE, Int.reduceEq, Nat.reduceLeDiff, Nat.reduceLT, Nat.reduceMul, Nat.reduceAdd, String.reduceEq]
  refine hQ .normal _ ?_; clear hQ Q
  refine TS.seq (TS.seq (TS.of [] fun Q hQ => ?_))
  simp only [go_sem, Nat.reduceEqDiff, Nat.reduceBEq, Int.reduceToNat, Int.reduceLT, Int.reduceLE, Int.reduceEq, Nat.reduceLeDiff, Nat.reduceLT, Nat.reduceMul, Nat.reduceAdd, String.reduceEq]
  refine hQ .normal _ ?_; clear hQ Q
  refine TS.block (TS.loop (α := Nat) (fun k => [(0, ss s), (1, ss set), (5, ii k)]) (fun _ => m) (fun k => k ≤ s.size ∧ ((L s).take k).all (fun b => hasB set b.toNat) = true) (fun k => s.size - k) 0 (by simp) ⟨by simp [Has, upd_apply, argsT], rfl, by simp⟩ ?_)
  rintro k st hH hm ⟨hk, hc⟩
  simp only [Has, List.mem_cons, List.not_mem_nil, or_false, forall_eq_or_imp, forall_eq] at hH; obtain ⟨h0, h1, h5⟩ := hH
  by_cases hlt : k < s.size
  · obtain ⟨b, hb⟩ : ∃ b, (L s)[k]? = some b := ⟨_, List.getElem?_eq_getElem (by rw [L_len]; exact hlt)⟩
    have hb' : s[k]? = some b := by rw [L_at]; exact hb
    have hw := wrap_succ hlt (by omega)
    refine TS.of [] fun Q hQ => ?_
    simp only [go_sem, Nat.reduceEqDiff, Nat.reduceBEq, Int.reduceToNat, Int.reduceLT, Int.reduceLE, Int.reduceEq, Nat.reduceLeDiff, Nat.reduceLT, Nat.reduceMul, Nat.reduceAdd, String.reduceEq, h0, h1, h5, hm, hlt, hb', hw]
    refine cal_eq (has_sim m set b.toNat hset) ?_
    cases he : hasB set b.toNat with
    | false =>
      simp only [go_sem, Nat.reduceEqDiff, Nat.reduceBEq, Int.reduceToNat, Int.reduceLT, Int.reduceLE, Int.reduceEq, Nat.reduceLeDiff, Nat.reduceLT, Nat.reduceMul, Nat.reduceAdd, String.reduceEq, h0, h1, h5, hm, hlt, hb', hw]
      refine hQ .ret _ ?_; exact post_ret _ _ _ rfl rfl (DropW.refl _) ⟨by rw [show allB s set = false from all_of hb he]; rfl, rfl⟩
    | true =>
      simp only [go_sem, Nat.reduceEqDiff, Nat.reduceBEq, Int.reduceToNat, Int.reduceLT, Int.reduceLE, Int.reduceEq, Nat.reduceLeDiff, Nat.reduceLT, Nat.reduceMul, Nat.reduceAdd, String.reduceEq, h0, h1, h5, hm, hlt, hb', hw]
      refine hQ .normal _ ?_; clear hQ Q
      refine ⟨_, _, k + 1, DropW.refl m, ?_, ⟨hlt, by rw [List.take_add_one, hb]; simp only [List.all_append, hc]; simp [he]⟩, by omega⟩
      simp [upd_apply, h0, h1, IV.np]
  · refine TS.of [] fun Q hQ => ?_
    simp only [go_sem, Nat.reduceEqDiff, Nat.reduceBEq, Int.reduceToNat, Int.reduceLT, Int.reduceLE, Int.reduceEq, Nat.reduceLeDiff, Nat.reduceLT, Nat.reduceMul, Nat.reduceAdd, String.reduceEq, h0, h1, h5, hm, hlt]
    refine hQ (.exit 0) _ ?_; clear hQ Q
    refine TS.of [] fun Q hQ => ?_
    simp only [go_sem, Nat.reduceEqDiff, Nat.reduceBEq, Int.reduceToNat, Int.reduceLT, Int.reduceLE, Int.reduceEq, Nat.reduceLeDiff, Nat.reduceLT, Nat.reduceMul, Nat.reduceAdd, String.reduceEq]
    refine hQ .ret _ ?_; exact post_ret _ _ _ rfl rfl (DropW.refl _) ⟨by rw [List.take_of_length_le (by rw [L_len]; omega)] at hc; rw [allB, hc]; rfl, rfl⟩
end Go.Proofs.Ytphjldhdnmoolaa.A
/- The walks of some functions over the abstract machine. -/
namespace Go.Proofs.Ytphjldhdnmoolaa.A
open Go
def letters : Bytes := ⟨#[97, 98, 99, 100, 101, 102, 103, 104, 105, 106, 107, 108, 109, 110, 111, 112, 113, 114, 115, 116, 117, 118, 119, 120, 121, 122, 65, 66, 67, 68, 69, 70, 71, 72, 73, 74, 75, 76, 77, 78, 79, 80, 81, 82, 83, 84, 85, 86, 87, 88, 89, 90]⟩
def wordly : Bytes := ⟨#[97, 98, 99, 100, 101, 102, 103, 104, 105, 106, 107, 108, 109, 110, 111, 112, 113, 114, 115, 116, 117, 118, 119, 120, 121, 122, 65, 66, 67, 68, 69, 70, 71, 72, 73, 74, 75, 76, 77, 78, 79, 80, 81, 82, 83, 84, 85, 86, 87, 88, 89, 90, 48, 49, 50, 51, 52, 53, 54, 55, 56, 57, 95]⟩
def signs : Bytes := ⟨#[40, 41, 123, 125, 91, 93, 44, 59, 43, 45, 42, 47, 37, 33, 60, 62, 61]⟩
def digits : Bytes := ⟨#[48, 49, 50, 51, 52, 53, 54, 55, 56, 57]⟩
def longB (s : Bytes) : Bool := match (L s)[0]? with
  | some b => hasB letters b.toNat && allB s wordly
  | none => false
def wordB (s : Bytes) : Bool := longB s && decide (s.size ≤ 16)
def two (s : Bytes) : Bool := decide (s = ⟨#[43, 61]⟩) || decide (s = ⟨#[45, 61]⟩) || decide (s = ⟨#[60, 62]⟩) || decide (s = ⟨#[60, 61]⟩) || decide (s = ⟨#[62, 61]⟩) || decide (s = ⟨#[61, 61]⟩) || decide (s = ⟨#[33, 61]⟩) || decide (s = ⟨#[38, 38]⟩) || decide (s = ⟨#[124, 124]⟩) || decide (s = ⟨#[46, 46]⟩)
def signB (s : Bytes) : Bool := if s.size = 1 then (match (L s)[0]? with | some b => hasB signs b.toNat | none => false) else two s
set_option maxRecDepth 100000 in
set_option maxHeartbeats 4000000 in
theorem long_sim (m : Mem) (s : Bytes) (hs : s.size < 900000) : Sim 63 [ss s] m (fun r m' => r = bb (longB s) ∧ m' = m) := by
  refine Sim.ofS 15 [.tmp 2] Try.func63 rfl rfl rfl (by simp) fun wr => ?_
  simp only [go_sem, Nat.reduceEqDiff, Nat.reduceBEq, Int.reduceToNat, Int.reduceLT, Int.reduceLE, Int.reduceEq, Nat.reduceLeDiff, Nat.reduceLT, Nat.reduceMul, Nat.reduceAdd, String.reduceEq]
  refine TS.of [] fun Q hQ => ?_
  by_cases h0 : 0 < s.size
  · obtain ⟨b, hb⟩ : ∃ b, (L s)[0]? = some b := ⟨_, List.getElem?_eq_getElem (by rw [L_len]; exact h0)⟩
    have hb' : s[0]? = some b := by rw [L_at]; exact hb
    have h0' : (0 : Int) < (s.size : Int) := by omega
    simp only [go_sem, Nat.reduceEqDiff, Nat.reduceBEq, Int.reduceToNat, Int.reduceLT, Int.reduceLE, Int.reduceEq, Nat.reduceLeDiff, Nat.reduceLT, Nat.reduceMul, Nat.reduceAdd, String.reduceEq, hb', h0']
    refine cal_eq (has_sim m letters b.toNat (by decide)) ?_
    cases he : hasB letters b.toNat with
    | false =>
      simp only [go_sem, Nat.reduceEqDiff, Nat.reduceBEq, Int.reduceToNat, Int.reduceLT, Int.reduceLE, Int.reduceEq, Nat.reduceLeDiff, Nat.reduceLT, Nat.reduceMul, Nat.reduceAdd, String.reduceEq]
      refine hQ .ret _ ?_; exact post_ret _ _ _ rfl rfl (DropW.refl _) ⟨by simp [longB, hb, he, upd_apply, IV.sh], rfl⟩
    | true =>
      simp only [go_sem, Nat.reduceEqDiff, Nat.reduceBEq, Int.reduceToNat, Int.reduceLT, Int.reduceLE, Int.reduceEq, Nat.reduceLeDiff, Nat.reduceLT, Nat.reduceMul, Nat.reduceAdd, String.reduceEq]
      refine cal_eq (all_sim m s wordly hs (by decide)) ?_
      simp only [go_sem, Nat.reduceEqDiff, Nat.reduceBEq, Int.reduceToNat, Int.reduceLT, Int.reduceLE, Int.reduceEq, Nat.reduceLeDiff, Nat.reduceLT, Nat.reduceMul, Nat.reduceAdd, String.reduceEq]
      refine hQ .ret _ ?_; exact post_ret _ _ _ rfl rfl (DropW.refl _) ⟨by simp [longB, hb, he, upd_apply, IV.sh], rfl⟩
  · have h0' : ¬ (0 : Int) < (s.size : Int) := by omega
    have hb : (L s)[0]? = none := List.getElem?_eq_none (by rw [L_len]; omega)
    simp only [go_sem, Nat.reduceEqDiff, Nat.reduceBEq, Int.reduceToNat, Int.reduceLT, Int.reduceLE, Int.reduceEq, Nat.reduceLeDiff, Nat.reduceLT, Nat.reduceMul, Nat.reduceAdd, String.reduceEq, h0']
    refine hQ .ret _ ?_; exact post_ret _ _ _ rfl rfl (DropW.refl _) ⟨by simp [longB, hb, upd_apply, IV.sh], rfl⟩
set_option maxRecDepth 100000 in
set_option maxHeartbeats 4000000 in
theorem word_sim (m : Mem) (s : Bytes) (hs : s.size < 900000) : Sim 66 [ss s] m (fun r m' => r = bb (wordB s) ∧ m' = m) := by
  refine Sim.ofS 10 [.tmp 2] Try.func66 rfl rfl rfl (by simp) fun wr => ?_
  simp only [go_sem, Nat.reduceEqDiff, Nat.reduceBEq, Int.reduceToNat, Int.reduceLT, Int.reduceLE, Int.reduceEq, Nat.reduceLeDiff, Nat.reduceLT, Nat.reduceMul, Nat.reduceAdd, String.reduceEq]
  refine TS.of [] fun Q hQ => ?_
  simp only [go_sem, Nat.reduceEqDiff, Nat.reduceBEq, Int.reduceToNat, Int.reduceLT, Int.reduceLE, Int.reduceEq, Nat.reduceLeDiff, Nat.reduceLT, Nat.reduceMul, Nat.reduceAdd, String.reduceEq]
  refine cal_eq (long_sim m s hs) ?_
  cases he : longB s with
  | false =>
    simp only [go_sem, Nat.reduceEqDiff, Nat.reduceBEq, Int.reduceToNat, Int.reduceLT, Int.reduceLE, Int.reduceEq, Nat.reduceLeDiff, Nat.reduceLT, Nat.reduceMul, Nat.reduceAdd, String.reduceEq]
    refine hQ .ret _ ?_; exact post_ret _ _ _ rfl rfl (DropW.refl _) ⟨by simp [wordB, he, upd_apply, IV.sh], rfl⟩
  | true =>
    have e : (s.size ≤ 16) ↔ (s.size : Int) ≤ 16 := by omega
    simp only [go_sem, Nat.reduceEqDiff, Nat.reduceBEq, Int.reduceToNat, Int.reduceLT, Int.reduceLE, Int.reduceEq, Nat.reduceLeDiff, Nat.reduceLT, Nat.reduceMul, Nat.reduceAdd, String.reduceEq]
    refine hQ .ret _ ?_; exact post_ret _ _ _ rfl rfl (DropW.refl _) ⟨by simp [wordB, he, upd_apply, IV.sh, e], rfl⟩
set_option maxRecDepth 100000 in
set_option maxHeartbeats 4000000 in
theorem sign_sim (m : Mem) (s : Bytes) (hs : s.size < 900000) : Sim 65 [ss s] m (fun r m' => r = bb (signB s) ∧ m' = m) := by
  refine Sim.ofS 21 [.tmp 2] Try.func65 rfl rfl rfl (by simp) fun wr => ?_
  simp only [go_sem, Nat.reduceEqDiff, Nat.reduceBEq, Int.reduceToNat, Int.reduceLT, Int.reduceLE, Int.reduceEq, Nat.reduceLeDiff, Nat.reduceLT, Nat.reduceMul, Nat.reduceAdd, String.reduceEq]
  by_cases h1 : s.size = 1
  · obtain ⟨b, hb⟩ : ∃ b, (L s)[0]? = some b := ⟨_, List.getElem?_eq_getElem (by rw [L_len]; omega)⟩
    have hb' : s[0]? = some b := by rw [L_at]; exact hb
    have h1' : (s.size : Int) = 1 := by omega
    refine TS.of [] fun Q hQ => ?_
    simp only [go_sem, Nat.reduceEqDiff, Nat.reduceBEq, Int.reduceToNat, Int.reduceLT, Int.reduceLE, Int.reduceEq, Nat.reduceLeDiff, Nat.reduceLT, Nat.reduceMul, Nat.reduceAdd, String.reduceEq, hb', h1']
    refine cal_eq (has_sim m signs b.toNat (by decide)) ?_
    simp only [go_sem, Nat.reduceEqDiff, Nat.reduceBEq, Int.reduceToNat, Int.reduceLT, Int.reduceLE, Int.reduceEq, Nat.reduceLeDiff, Nat.reduceLT, Nat.reduceMul, Nat.reduceAdd, String.reduceEq]
    refine hQ .ret _ ?_; exact post_ret _ _ _ rfl rfl (DropW.refl _) ⟨by rw [signB, if_pos h1, hb]; rfl, rfl⟩
  · have h1' : ¬ (s.size : Int) = 1 := by omega
    refine TS.of [] fun Q hQ => ?_
    simp only [go_sem, Nat.reduceEqDiff, Nat.reduceBEq, Int.reduceToNat, Int.reduceLT, Int.reduceLE, Int.reduceEq, Nat.reduceLeDiff, Nat.reduceLT, Nat.reduceMul, Nat.reduceAdd, String.reduceEq, h1']
    have hsg : signB s = two s := by rw [signB, if_neg h1]
    (repeat' first | refine And.intro ?_ ?_ | intro _)
    all_goals first | (exfalso; contradiction) | (refine hQ .ret _ ?_; refine post_ret _ _ _ rfl rfl (DropW.refl _) ⟨?_, rfl⟩; simp only [upd_apply, IV.sh, Nat.reduceEqDiff, if_true, if_false]; rw [hsg]; simp [two, *])
end Go.Proofs.Ytphjldhdnmoolaa.A
/- The walks of some functions over the abstract machine. -/
namespace Go.Proofs.Ytphjldhdnmoolaa.A
open Go
/-! lists that grow -/
def accK (r0 : Nat) (e : TypeId) (n : Nat) : SK := if n = 0 then .full else .row r0 e
def accM (m : Mem) (n : Nat) : Mem := ⟨m.objs, if n = 0 then m.rows else m.rows ++ [n]⟩
theorem acc_app (m : Mem) (e : TypeId) (n k : Nat) (hk : k ≠ 0) : app (accM m n).rows e n k (accK m.rows.length e n) = some (accK m.rows.length e (n + k), (accM m (n + k)).rows) := by
  unfold app accM accK
  rw [if_neg hk]
  by_cases h : n = 0
  · subst h; simp [hk]
  · simp [h]
theorem accM_0 (m : Mem) : accM m 0 = m := rfl
theorem DropW.acc {m0 m1 m' : Mem} (xs : List IObj) (h1 : m'.objs = m0.objs ++ xs) (h2 : m1.objs = m0.objs) (h3 : m'.rows = m1.rows) (h4 : m0.rows.length ≤ m1.rows.length) : DropW m0 m0.objs.length m1.rows.length m' m1 :=
  ⟨by rw [h1, h2]; simp, by rw [h3]; simp, Nat.le_refl _, h4, fun o x hx hl => .inl (by rw [h1] at hx; simpa [List.getElem?_append_left hl] using hx)⟩
theorem accM_len (m : Mem) (n k : Nat) : (accM m n).rows.length ≤ (accM m (n + k)).rows.length := by
  unfold accM; dsimp only
  by_cases h : n = 0
  · subst h; simp only [if_true]; split <;> simp
  · rw [if_neg h, if_neg (by omega)]; simp
theorem accK_np (m : Mem) (e : TypeId) (n : Nat) : (accK m.rows.length e n).np (accM m n).rows.length = true := by
  unfold accK accM; dsimp only
  by_cases h : n = 0
  · simp [h, SK.np]
  · simp [h, SK.np]
theorem DropW.rows_ {m m' : Mem} (rs : List Nat) (h1 : m'.objs = m.objs) (h2 : m'.rows = m.rows ++ rs) : DropW m m.objs.length m.rows.length m' m :=
  DropW.tail [] rs (by cases m'; simp only at h1 h2; rw [h1, h2]; simp)
/-! the tokens -/
def nlp (s : Bytes) (at_ : Nat) : Nat := at_ + (((L s).drop at_).takeWhile (fun b => !decide (b.toNat = 10))).length
theorem nlp_step {s : Bytes} {k : Nat} {b : UInt8} (h : (L s)[k]? = some b) : nlp s k = if b.toNat = 10 then k else nlp s (k + 1) := by
  obtain ⟨hk, rfl⟩ := List.getElem?_eq_some_iff.1 h
  unfold nlp
  rw [List.drop_eq_getElem_cons hk, List.takeWhile_cons]
  by_cases e : (L s)[k].toNat = 10
  · simp [e]
  · simp only [e, decide_false, Bool.not_false, if_true, if_false, List.length_cons]; omega
theorem nlp_end {s : Bytes} {k : Nat} (h : s.size ≤ k) : nlp s k = k := by
  unfold nlp
  rw [List.drop_eq_nil_of_le (by rw [L_len]; exact h)]; simp
theorem nlp_le {s : Bytes} {k : Nat} (h : k ≤ s.size) : k ≤ nlp s k ∧ nlp s k ≤ s.size := by
  unfold nlp
  have h1 := (List.takeWhile_sublist (l := (L s).drop k) (fun b : UInt8 => !decide (b.toNat = 10))).length_le
  rw [List.length_drop, L_len] at h1
  omega
def good (t : Bytes) : Bool := longB t || allB t digits || signB t
def lastE (s : Bytes) (at_ : Nat) : Nat → Nat
  | 0 => 0
  | e + 1 => if at_ < e + 1 ∧ good (s.extract at_ (e + 1)) = false then lastE s at_ e else e + 1
theorem lastE_succ {s : Bytes} {a e : Nat} : lastE s a (e + 1) = if a < e + 1 ∧ good (s.extract a (e + 1)) = false then lastE s a e else e + 1 := rfl
def kindT (t : Bytes) (ne : Bool) : Int := if signB t then 3 else if ne && (allB t digits && numOK t) then 2 else if wordB t then 1 else 0
def toksF (s : Bytes) : Nat → Nat → List Tok → List Tok × Int × Int
  | 0, _, _ => ([], 0, 0)
  | f + 1, at_, acc => match (L s)[at_]? with
    | none => (acc ++ [⟨4, ByteArray.empty, s.size⟩], 0, 0)
    | some b => if b.toNat = 32 ∨ b.toNat = 9 ∨ b.toNat = 10 then toksF s f (at_ + 1) acc
      else if b.toNat = 35 then toksF s f (nlp s at_) acc
      else if kindT (s.extract at_ (lastE s at_ s.size)) (decide (at_ < lastE s at_ s.size)) = 0 then ([], 7, at_)
      else toksF s f (lastE s at_ s.size) (acc ++ [⟨kindT (s.extract at_ (lastE s at_ s.size)) (decide (at_ < lastE s at_ s.size)), s.extract at_ (lastE s at_ s.size), at_⟩])
def tokens (s : Bytes) : List Tok × Int × Int := if 480 < s.size then ([], 2, 0) else toksF s (s.size + 1) 0 []
theorem lastE_le {s : Bytes} {a : Nat} : ∀ {e : Nat}, a ≤ e → a ≤ lastE s a e ∧ lastE s a e ≤ e
  | 0, h => ⟨by simp [lastE]; omega, by simp [lastE]⟩
  | e + 1, h => by
    unfold lastE
    split
    · rename_i hc; have := lastE_le (s := s) (a := a) (e := e) (by omega); omega
    · omega
theorem ext_size (s : Bytes) (a b : Nat) : (s.extract a b).size = min b s.size - a := by simp
theorem kind_ne {s : Bytes} {a e : Nat} (h : kindT (s.extract a e) (decide (a < e)) ≠ 0) (hle : e ≤ s.size) : a < e := by
  by_cases he : a < e
  · exact he
  · exfalso
    have h0 : (s.extract a e).size = 0 := by rw [ext_size]; omega
    have hL : L (s.extract a e) = [] := by apply List.eq_nil_of_length_eq_zero; rw [L_len]; exact h0
    have h1 : longB (s.extract a e) = false := by unfold longB; rw [hL]; rfl
    have hd : s.extract a e = ByteArray.empty := by
      generalize s.extract a e = t at h0 hL
      cases t with
      | mk d => unfold L at hL; simp at hL; subst hL; rfl
    have h2 : signB (s.extract a e) = false := by rw [hd]; decide
    apply h
    unfold kindT wordB
    simp [h1, h2, he]
abbrev tokS (r0 : Nat) (acc : List Tok) : IV := .sl (accK r0 60 acc.length) acc.length (encK acc)
set_option maxRecDepth 100000 in
set_option maxHeartbeats 4000000 in
theorem tokens_sim (m : Mem) (s : Bytes) (hs : s.size < 900000) : Sim 32 [ss s] m (fun r m' => r = .tup [slK (tokens s).1, ii (tokens s).2.1, ii (tokens s).2.2] ∧ m' = m) := by
  refine Sim.ofS 124 [.tmp 2, .tmp 3, .tmp 4] Try.func32 rfl rfl rfl (by simp) fun wr => ?_
  simp only [go_sem, Nat.reduceEqDiff, Nat.reduceBEq, Int.reduceToNat, Int.reduceLT, Int.reduceLE, Int.reduceEq, Nat.reduceLeDiff, Nat.reduceLT, Nat.reduceMul, Nat.reduceAdd, String.reduceEq]
  refine TS.seq (TS.of [] fun Q hQ => ?_)
  simp only [go_sem, Nat.reduceEqDiff, Nat.reduceBEq, Int.reduceToNat, Int.reduceLT, Int.reduceLE, Int.reduceEq, Nat.reduceLeDiff, Nat.reduceLT, Nat.reduceMul, Nat.reduceAdd, String.reduceEq]
  refine hQ .normal _ ?_; clear hQ Q
  by_cases hbig : 480 < s.size
  · have hbig' : (480 : Int) < (s.size : Int) := by omega
    refine TS.seq (TS.of [] fun Q hQ => ?_)
    simp only [go_sem, Nat.reduceEqDiff, Nat.reduceBEq, Int.reduceToNat, Int.reduceLT, Int.reduceLE, Int.reduceEq, Nat.reduceLeDiff, Nat.reduceLT, Nat.reduceMul, Nat.reduceAdd, String.reduceEq, hbig']
    refine hQ .ret _ ?_; exact post_ret _ _ _ rfl rfl (DropW.refl _) ⟨by rw [tokens, if_pos hbig]; rfl, rfl⟩
  have hbig' : ¬ (480 : Int) < (s.size : Int) := by omega
  have htok : tokens s = toksF s (s.size + 1) 0 [] := by rw [tokens, if_neg hbig]
  refine TS.seq (TS.of [] fun Q hQ => ?_)
  simp only [go_sem, Nat.reduceEqDiff, Nat.reduceBEq, Int.reduceToNat, Int.reduceLT, Int.reduceLE, Int.reduceEq, Nat.reduceLeDiff, Nat.reduceLT, Nat.reduceMul, Nat.reduceAdd, String.reduceEq, hbig']
  refine hQ .normal _ ?_; clear hQ Q
  refine TS.seq (TS.of [] fun Q hQ => ?_)
  simp only [go_sem, Nat.reduceEqDiff, Nat.reduceBEq, Int.reduceToNat, Int.reduceLT, Int.reduceLE, Int.reduceEq, Nat.reduceLeDiff, Nat.reduceLT, Nat.reduceMul, Nat.reduceAdd, String.reduceEq]
  refine hQ .normal _ ?_; clear hQ Q
  refine TS.seq (TS.of [] fun Q hQ => ?_)
  simp only [go_sem, Nat.reduceEqDiff, Nat.reduceBEq, Int.reduceToNat, Int.reduceLT, Int.reduceLE, Int.reduceEq, Nat.reduceLeDiff, Nat.reduceLT, Nat.reduceMul, Nat.reduceAdd, String.reduceEq]
  refine hQ .normal _ ?_; clear hQ Q
  refine TS.seq (TS.block (TS.loop (α := Nat × Nat × List Tok) (fun x => [(0, ss s), (5, tokS m.rows.length x.2.2), (6, ii x.2.1)]) (fun x => accM m x.2.2.length) (fun x => x.2.1 ≤ s.size ∧ s.size + 1 ≤ x.1 + x.2.1 ∧ x.2.2.length ≤ x.2.1 ∧ toksF s x.1 x.2.1 x.2.2 = tokens s) (fun x => s.size - x.2.1) (s.size + 1, 0, []) (by simp) ⟨by simp [Has, upd_apply, argsT, accK, encK], rfl, by simp [htok]⟩ ?_))
  rintro ⟨f, p, acc⟩ st hH hm ⟨hk, hf, hacc, hc⟩
  dsimp only at hH hm hk hf hacc hc
  simp only [Has, List.mem_cons, List.not_mem_nil, or_false, forall_eq_or_imp, forall_eq] at hH; obtain ⟨h0, h5, h6⟩ := hH
  by_cases hlt : p < s.size
  · obtain ⟨b, hb⟩ : ∃ b, (L s)[p]? = some b := ⟨_, List.getElem?_eq_getElem (by rw [L_len]; exact hlt)⟩
    have hb' : s[p]? = some b := by rw [L_at]; exact hb
    have hw := wrap_succ hlt (by omega)
    obtain ⟨f, rfl⟩ : ∃ g, f = g + 1 := ⟨f - 1, by omega⟩
    simp only [toksF, hb] at hc
    refine TS.seq (TS.of [] fun Q hQ => ?_)
    simp only [go_sem, Nat.reduceEqDiff, Nat.reduceBEq, Int.reduceToNat, Int.reduceLT, Int.reduceLE, Int.reduceEq, Nat.reduceLeDiff, Nat.reduceLT, Nat.reduceMul, Nat.reduceAdd, String.reduceEq, h0, h5, h6, hm, hlt]
    refine hQ .normal _ ?_; clear hQ Q
    refine TS.block ?_
    by_cases hsp : b.toNat = 32 ∨ b.toNat = 9 ∨ b.toNat = 10
    · rw [if_pos hsp] at hc
      refine TS.seq (TS.of [] fun Q hQ => ?_)
      by_cases e1 : (b.toNat : Int) = 32 <;> by_cases e2 : (b.toNat : Int) = 9 <;> by_cases e3 : (b.toNat : Int) = 10 <;> first | (exfalso; omega; done) | skip
      all_goals (simp only [go_sem, Nat.reduceEqDiff, Nat.reduceBEq, Int.reduceToNat, Int.reduceLT, Int.reduceLE, Int.reduceEq, Nat.reduceLeDiff, Nat.reduceLT, Nat.reduceMul, Nat.reduceAdd, String.reduceEq, h0, h5, h6, hm, hlt, hb', hw, e1, e2, e3])
      all_goals refine hQ (.exit 1) _ ?_; clear hQ Q
      all_goals (refine ⟨_, _, (f, p + 1, acc), DropW.refl _, ?_, ⟨by dsimp only; omega, by dsimp only; omega, by dsimp only; omega, hc⟩, by dsimp only; omega⟩)
      all_goals simp [upd_apply, h0, h5, IV.np, accK_np, npK]
    have e1 : ¬ (b.toNat : Int) = 32 := by omega
    have e2 : ¬ (b.toNat : Int) = 9 := by omega
    have e3 : ¬ (b.toNat : Int) = 10 := by omega
    rw [if_neg hsp] at hc
    refine TS.seq (TS.of [] fun Q hQ => ?_)
    simp only [go_sem, Nat.reduceEqDiff, Nat.reduceBEq, Int.reduceToNat, Int.reduceLT, Int.reduceLE, Int.reduceEq, Nat.reduceLeDiff, Nat.reduceLT, Nat.reduceMul, Nat.reduceAdd, String.reduceEq, h0, h5, h6, hm, hlt, hb', e1, e2, e3]
    refine hQ .normal _ ?_; clear hQ Q
    by_cases hcm : b.toNat = 35
    · rw [if_pos hcm] at hc
      have e4 : (b.toNat : Int) = 35 := by omega
      have hnl := nlp_le (s := s) (k := p) hk
      have hgt : p < nlp s p := by
        rw [nlp_step hb, if_neg (by omega)]
        have := (nlp_le (s := s) (k := p + 1) (by omega)).1
        omega
      refine TS.seq (TS.seq (TS.of [] fun Q hQ => ?_))
      simp only [go_sem, Nat.reduceEqDiff, Nat.reduceBEq, Int.reduceToNat, Int.reduceLT, Int.reduceLE, Int.reduceEq, Nat.reduceLeDiff, Nat.reduceLT, Nat.reduceMul, Nat.reduceAdd, String.reduceEq, h0, h5, h6, hm, hlt, hb', e4]
      refine hQ .normal _ ?_; clear hQ Q
      refine TS.cond (t := true) (by simp only [go_sem, Nat.reduceEqDiff, Nat.reduceBEq, Int.reduceToNat, Int.reduceLT, Int.reduceLE, Int.reduceEq, Nat.reduceLeDiff, Nat.reduceLT, Nat.reduceMul, Nat.reduceAdd, String.reduceEq]) ?_
      refine TS.seq (TS.block (TS.loop (α := Nat) (fun k => [(0, ss s), (5, tokS m.rows.length acc), (6, ii k)]) (fun _ => accM m acc.length) (fun k => p ≤ k ∧ k ≤ s.size ∧ nlp s k = nlp s p) (fun k => s.size - k) p (by simp) ⟨by simp [Has, upd_apply, h0, h5, h6], rfl, by omega⟩ ?_))
      rintro k st2 hH hm2 ⟨hk1, hk2, hk3⟩
      simp only [Has, List.mem_cons, List.not_mem_nil, or_false, forall_eq_or_imp, forall_eq] at hH; obtain ⟨i0, i5, i6⟩ := hH
      by_cases hkl : k < s.size
      · obtain ⟨c, hcb⟩ : ∃ c, (L s)[k]? = some c := ⟨_, List.getElem?_eq_getElem (by rw [L_len]; exact hkl)⟩
        have hcb' : s[k]? = some c := by rw [L_at]; exact hcb
        have hw2 := wrap_succ hkl (by omega)
        rw [nlp_step hcb] at hk3
        refine TS.of [] fun Q hQ => ?_
        by_cases e5 : (c.toNat : Int) = 10
        · rw [if_pos (by omega)] at hk3
          simp only [go_sem, Nat.reduceEqDiff, Nat.reduceBEq, Int.reduceToNat, Int.reduceLT, Int.reduceLE, Int.reduceEq, Nat.reduceLeDiff, Nat.reduceLT, Nat.reduceMul, Nat.reduceAdd, String.reduceEq, i0, i5, i6, hm2, hkl, hcb', e5]
          refine hQ (.exit 2) _ ?_; clear hQ Q
          refine TS.of [] fun Q hQ => ?_
          simp only [go_sem, Nat.reduceEqDiff, Nat.reduceBEq, Int.reduceToNat, Int.reduceLT, Int.reduceLE, Int.reduceEq, Nat.reduceLeDiff, Nat.reduceLT, Nat.reduceMul, Nat.reduceAdd, String.reduceEq]
          refine hQ (.exit 1) _ ?_; clear hQ Q
          refine ⟨_, _, (f, nlp s p, acc), DropW.refl _, ?_, ⟨by dsimp only; omega, by dsimp only; omega, by dsimp only; omega, hc⟩, by dsimp only; omega⟩
          simp [upd_apply, i0, i5, i6, hk3, IV.np, accK_np, npK]
        · rw [if_neg (by omega)] at hk3
          simp only [go_sem, Nat.reduceEqDiff, Nat.reduceBEq, Int.reduceToNat, Int.reduceLT, Int.reduceLE, Int.reduceEq, Nat.reduceLeDiff, Nat.reduceLT, Nat.reduceMul, Nat.reduceAdd, String.reduceEq, i0, i5, i6, hm2, hkl, hcb', e5, hw2]
          refine hQ .normal _ ?_; clear hQ Q
          refine ⟨_, _, k + 1, DropW.refl _, ?_, ⟨by omega, by omega, hk3⟩, by omega⟩
          simp [upd_apply, i0, i5, i6, IV.np, accK_np, npK]
      · rw [nlp_end (by omega)] at hk3
        refine TS.of [] fun Q hQ => ?_
        simp only [go_sem, Nat.reduceEqDiff, Nat.reduceBEq, Int.reduceToNat, Int.reduceLT, Int.reduceLE, Int.reduceEq, Nat.reduceLeDiff, Nat.reduceLT, Nat.reduceMul, Nat.reduceAdd, String.reduceEq, i0, i5, i6, hm2, hkl]
        refine hQ (.exit 2) _ ?_; clear hQ Q
        refine TS.of [] fun Q hQ => ?_
        simp only [go_sem, Nat.reduceEqDiff, Nat.reduceBEq, Int.reduceToNat, Int.reduceLT, Int.reduceLE, Int.reduceEq, Nat.reduceLeDiff, Nat.reduceLT, Nat.reduceMul, Nat.reduceAdd, String.reduceEq]
        refine hQ (.exit 1) _ ?_; clear hQ Q
        refine ⟨_, _, (f, nlp s p, acc), DropW.refl _, ?_, ⟨by dsimp only; omega, by dsimp only; omega, by dsimp only; omega, hc⟩, by dsimp only; omega⟩
        simp [upd_apply, i0, i5, i6, hk3, IV.np, accK_np, npK]
    have e4 : ¬ (b.toNat : Int) = 35 := by omega
    rw [if_neg hcm] at hc
    refine TS.seq (TS.seq (TS.of [] fun Q hQ => ?_))
    simp only [go_sem, Nat.reduceEqDiff, Nat.reduceBEq, Int.reduceToNat, Int.reduceLT, Int.reduceLE, Int.reduceEq, Nat.reduceLeDiff, Nat.reduceLT, Nat.reduceMul, Nat.reduceAdd, String.reduceEq, h0, h5, h6, hm, hlt, hb', e4]
    refine hQ .normal _ ?_; clear hQ Q
    refine TS.cond (t := false) (by simp only [go_sem, Nat.reduceEqDiff, Nat.reduceBEq, Int.reduceToNat, Int.reduceLT, Int.reduceLE, Int.reduceEq, Nat.reduceLeDiff, Nat.reduceLT, Nat.reduceMul, Nat.reduceAdd, String.reduceEq]) ?_
    refine TS.of [] fun Q hQ => ?_
    simp only [go_sem, Nat.reduceEqDiff, Nat.reduceBEq, Int.reduceToNat, Int.reduceLT, Int.reduceLE, Int.reduceEq, Nat.reduceLeDiff, Nat.reduceLT, Nat.reduceMul, Nat.reduceAdd, String.reduceEq]
    refine hQ .normal _ ?_; clear hQ Q
    refine TS.seq (TS.of [] fun Q hQ => ?_)
    simp only [go_sem, Nat.reduceEqDiff, Nat.reduceBEq, Int.reduceToNat, Int.reduceLT, Int.reduceLE, Int.reduceEq, Nat.reduceLeDiff, Nat.reduceLT, Nat.reduceMul, Nat.reduceAdd, String.reduceEq, h0, h5, h6, hm, hlt, hb', e4]
    refine hQ .normal _ ?_; clear hQ Q
    have hle := lastE_le (s := s) (a := p) (e := s.size) hk
    refine TS.seq (TS.block (TS.loop (α := Nat) (fun k => [(0, ss s), (5, tokS m.rows.length acc), (6, ii p), (7, ii k)]) (fun _ => accM m acc.length) (fun k => p ≤ k ∧ k ≤ s.size ∧ lastE s p k = lastE s p s.size) (fun k => k) s.size (by simp) ⟨by simp [Has, upd_apply, h0, h5, h6], rfl, by omega⟩ ?_))
    rintro k st2 hH hm2 ⟨hk1, hk2, hk3⟩
    simp only [Has, List.mem_cons, List.not_mem_nil, or_false, forall_eq_or_imp, forall_eq] at hH; obtain ⟨i0, i5, i6, i7⟩ := hH
    refine TS.mono (Q := fun e s' => (e = .exit 4 ∧ (s'.t 0 = ss s ∧ s'.t 5 = tokS m.rows.length acc ∧ s'.t 6 = ii p ∧ s'.t 7 = ii k) ∧ s'.m = accM m acc.length ∧ lastE s p s.size = k) ∨ (e = .normal ∧ (s'.t 0 = ss s ∧ s'.t 5 = tokS m.rows.length acc ∧ s'.t 6 = ii p ∧ s'.t 7 = ii ((k - 1 : Nat) : Int)) ∧ s'.m = accM m acc.length ∧ p < k ∧ lastE s p (k - 1) = lastE s p s.size)) ?_ ?_
    · refine TS.of [] fun Q hQ => ?_
      by_cases hpk : p < k
      · obtain ⟨k, rfl⟩ : ∃ j, k = j + 1 := ⟨k - 1, by omega⟩
        have hesz : (s.extract p (k + 1)).size < 900000 := by rw [ext_size]; omega
        have hw3 : IntKind.i64.wrap (((k + 1 : Nat) : Int) - 1) = (k : Int) := by rw [wrap_small (by omega) (by omega)]; omega
        rw [lastE_succ] at hk3
        have hpk2 : p ≤ k + 1 := hk1
        simp only [go_sem, Nat.reduceEqDiff, Nat.reduceBEq, Int.reduceToNat, Int.reduceLT, Int.reduceLE, Int.reduceEq, Nat.reduceLeDiff, Nat.reduceLT, Nat.reduceMul, Nat.reduceAdd, String.reduceEq, i0, i5, i6, i7, hm2, hpk, hk2, hpk2]
        refine cal_eq (long_sim _ _ hesz) ?_
        cases hlo : longB (s.extract p (k + 1)) with
        | true =>
          rw [if_neg (by simp [good, hlo])] at hk3
          simp only [go_sem, Nat.reduceEqDiff, Nat.reduceBEq, Int.reduceToNat, Int.reduceLT, Int.reduceLE, Int.reduceEq, Nat.reduceLeDiff, Nat.reduceLT, Nat.reduceMul, Nat.reduceAdd, String.reduceEq]
          refine hQ (.exit 4) _ ?_; clear hQ Q
          exact .inl ⟨rfl, by simp [upd_apply, i0, i5, i6, i7], rfl, hk3.symm⟩
        | false =>
          simp only [go_sem, Nat.reduceEqDiff, Nat.reduceBEq, Int.reduceToNat, Int.reduceLT, Int.reduceLE, Int.reduceEq, Nat.reduceLeDiff, Nat.reduceLT, Nat.reduceMul, Nat.reduceAdd, String.reduceEq, i0, i5, i6, i7, hm2, hpk, hk2, hpk2]
          refine cal_eq (all_sim _ _ digits hesz (by decide)) ?_
          cases hal : allB (s.extract p (k + 1)) digits with
          | true =>
            rw [if_neg (by simp [good, hal])] at hk3
            simp only [go_sem, Nat.reduceEqDiff, Nat.reduceBEq, Int.reduceToNat, Int.reduceLT, Int.reduceLE, Int.reduceEq, Nat.reduceLeDiff, Nat.reduceLT, Nat.reduceMul, Nat.reduceAdd, String.reduceEq]
            refine hQ (.exit 4) _ ?_; clear hQ Q
            exact .inl ⟨rfl, by simp [upd_apply, i0, i5, i6, i7], rfl, hk3.symm⟩
          | false =>
            simp only [go_sem, Nat.reduceEqDiff, Nat.reduceBEq, Int.reduceToNat, Int.reduceLT, Int.reduceLE, Int.reduceEq, Nat.reduceLeDiff, Nat.reduceLT, Nat.reduceMul, Nat.reduceAdd, String.reduceEq, i0, i5, i6, i7, hm2, hpk, hk2, hpk2]
            refine cal_eq (sign_sim _ _ hesz) ?_
            cases hsi : signB (s.extract p (k + 1)) with
            | true =>
              rw [if_neg (by simp [good, hsi])] at hk3
              simp only [go_sem, Nat.reduceEqDiff, Nat.reduceBEq, Int.reduceToNat, Int.reduceLT, Int.reduceLE, Int.reduceEq, Nat.reduceLeDiff, Nat.reduceLT, Nat.reduceMul, Nat.reduceAdd, String.reduceEq]
              refine hQ (.exit 4) _ ?_; clear hQ Q
              exact .inl ⟨rfl, by simp [upd_apply, i0, i5, i6, i7], rfl, hk3.symm⟩
            | false =>
              rw [if_pos ⟨hpk, by simp [good, hlo, hal, hsi]⟩] at hk3
              simp only [go_sem, Nat.reduceEqDiff, Nat.reduceBEq, Int.reduceToNat, Int.reduceLT, Int.reduceLE, Int.reduceEq, Nat.reduceLeDiff, Nat.reduceLT, Nat.reduceMul, Nat.reduceAdd, String.reduceEq, i0, i5, i6, i7, hm2, hw3]
              refine hQ .normal _ ?_; clear hQ Q
              exact .inr ⟨rfl, by simp [upd_apply, i0, i5, i6, i7], rfl, hpk, hk3⟩
      · have hpk' : ¬ (p : Int) < (k : Int) := by omega
        have hkp : k = p := by omega
        simp only [go_sem, Nat.reduceEqDiff, Nat.reduceBEq, Int.reduceToNat, Int.reduceLT, Int.reduceLE, Int.reduceEq, Nat.reduceLeDiff, Nat.reduceLT, Nat.reduceMul, Nat.reduceAdd, String.reduceEq, i0, i5, i6, i7, hm2, hpk]
        refine hQ (.exit 4) _ ?_; clear hQ Q
        refine .inl ⟨rfl, by simp [upd_apply, i0, i5, i6, i7], rfl, ?_⟩
        rw [← hk3]
        subst hkp
        have := lastE_le (s := s) (a := k) (e := k) (Nat.le_refl _)
        omega
    · rintro e s3 (⟨rfl, ⟨i0, i5, i6, i7⟩, hm3, hl⟩ | ⟨rfl, ⟨i0, i5, i6, i7⟩, hm3, hpk, hl⟩)
      · rw [hl] at hc
        have hks : k ≤ s.size := hk2
        have hesz : (s.extract p k).size < 900000 := by rw [ext_size]; omega
        generalize htt : s.extract p k = t at hc hesz
        have hki : (p : Int) ≤ (k : Int) := by omega
        refine TS.seq (TS.of [] fun Q hQ => ?_)
        simp only [go_sem, Nat.reduceEqDiff, Nat.reduceBEq, Int.reduceToNat, Int.reduceLT, Int.reduceLE, Int.reduceEq, Nat.reduceLeDiff, Nat.reduceLT, Nat.reduceMul, Nat.reduceAdd, String.reduceEq, i0, i5, i6, i7, hm3, hk1, hk2, htt]
        refine hQ .normal _ ?_; clear hQ Q
        refine TS.seq (TS.mono (Q := fun e s' => e = .normal ∧ (s'.t 5 = tokS m.rows.length acc ∧ s'.t 6 = ii p ∧ s'.t 7 = ii k ∧ s'.t 8 = .ptr m.objs.length 0 ∧ s'.t 0 = ss s) ∧ s'.m = ⟨m.objs ++ [.cells [ii (if wordB t then 1 else 0), ss t, ii p]], (accM m acc.length).rows⟩) ?_ ?_)
        · refine TS.of [] fun Q hQ => ?_
          simp only [go_sem, Nat.reduceEqDiff, Nat.reduceBEq, Int.reduceToNat, Int.reduceLT, Int.reduceLE, Int.reduceEq, Nat.reduceLeDiff, Nat.reduceLT, Nat.reduceMul, Nat.reduceAdd, String.reduceEq, i0, i5, i6, i7, accM]
          refine cal_eq (word_sim _ _ hesz) ?_
          cases hwd : wordB t with
          | true =>
            simp only [go_sem, Nat.reduceEqDiff, Nat.reduceBEq, Int.reduceToNat, Int.reduceLT, Int.reduceLE, Int.reduceEq, Nat.reduceLeDiff, Nat.reduceLT, Nat.reduceMul, Nat.reduceAdd, String.reduceEq, i0, i5, i6, i7, accM]
            refine hQ .normal _ ?_; clear hQ Q
            exact ⟨rfl, by simp [upd_apply, i0, i5, i6, i7], by simp [hwd, accM]⟩
          | false =>
            simp only [go_sem, Nat.reduceEqDiff, Nat.reduceBEq, Int.reduceToNat, Int.reduceLT, Int.reduceLE, Int.reduceEq, Nat.reduceLeDiff, Nat.reduceLT, Nat.reduceMul, Nat.reduceAdd, String.reduceEq, i0, i5, i6, i7, accM]
            refine hQ .normal _ ?_; clear hQ Q
            exact ⟨rfl, by simp [upd_apply, i0, i5, i6, i7], by simp [hwd, accM]⟩
        rintro e s4 ⟨rfl, ⟨j5, j6, j7, j8, j0⟩, hm4⟩
        generalize hk1e : (if wordB t then 1 else 0 : Int) = K1 at hm4
        refine TS.seq (TS.mono (Q := fun e s' => e = .normal ∧ (s'.t 5 = tokS m.rows.length acc ∧ s'.t 6 = ii p ∧ s'.t 7 = ii k ∧ s'.t 8 = .ptr m.objs.length 0 ∧ s'.t 0 = ss s) ∧ s'.m = ⟨m.objs ++ [.cells [ii (if decide (p < k) && (allB t digits && numOK t) then 2 else K1), ss t, ii p]], (accM m acc.length).rows⟩) ?_ ?_)
        · by_cases hpk : p < k
          · obtain ⟨b0, hb0⟩ : ∃ b0, (L t)[0]? = some b0 := ⟨_, List.getElem?_eq_getElem (by rw [L_len, ← htt, ext_size]; omega)⟩
            have hb0' : t[0]? = some b0 := by rw [L_at]; exact hb0
            refine TS.of [] fun Q hQ => ?_
            simp only [go_sem, Nat.reduceEqDiff, Nat.reduceBEq, Int.reduceToNat, Int.reduceLT, Int.reduceLE, Int.reduceEq, Nat.reduceLeDiff, Nat.reduceLT, Nat.reduceMul, Nat.reduceAdd, String.reduceEq, j0, j5, j6, j7, j8, hm4, hpk]
            refine cal_eq (all_sim _ _ digits hesz (by decide)) ?_
            cases hal : allB t digits with
            | false =>
              simp only [go_sem, Nat.reduceEqDiff, Nat.reduceBEq, Int.reduceToNat, Int.reduceLT, Int.reduceLE, Int.reduceEq, Nat.reduceLeDiff, Nat.reduceLT, Nat.reduceMul, Nat.reduceAdd, String.reduceEq, j0, j5, j6, j7, j8, hm4]
              refine hQ .normal _ ?_; clear hQ Q
              exact ⟨rfl, by simp [upd_apply, j0, j5, j6, j7, j8], by simp [hal]⟩
            | true =>
              simp only [go_sem, Nat.reduceEqDiff, Nat.reduceBEq, Int.reduceToNat, Int.reduceLT, Int.reduceLE, Int.reduceEq, Nat.reduceLeDiff, Nat.reduceLT, Nat.reduceMul, Nat.reduceAdd, String.reduceEq, j0, j5, j6, j7, j8, hm4]
              refine cal_eq (numOK_sim _ _ b0 hb0') ?_
              cases hnu : numOK t with
              | false =>
                simp only [go_sem, Nat.reduceEqDiff, Nat.reduceBEq, Int.reduceToNat, Int.reduceLT, Int.reduceLE, Int.reduceEq, Nat.reduceLeDiff, Nat.reduceLT, Nat.reduceMul, Nat.reduceAdd, String.reduceEq, j0, j5, j6, j7, j8, hm4]
                refine hQ .normal _ ?_; clear hQ Q
                exact ⟨rfl, by simp [upd_apply, j0, j5, j6, j7, j8], by simp [hnu]⟩
              | true =>
                simp only [go_sem, Nat.reduceEqDiff, Nat.reduceBEq, Int.reduceToNat, Int.reduceLT, Int.reduceLE, Int.reduceEq, Nat.reduceLeDiff, Nat.reduceLT, Nat.reduceMul, Nat.reduceAdd, String.reduceEq, j0, j5, j6, j7, j8, hm4]
                refine hQ .normal _ ?_; clear hQ Q
                exact ⟨rfl, by simp [upd_apply, j0, j5, j6, j7, j8], by simp [hpk, hal, hnu]⟩
          · refine TS.of [] fun Q hQ => ?_
            simp only [go_sem, Nat.reduceEqDiff, Nat.reduceBEq, Int.reduceToNat, Int.reduceLT, Int.reduceLE, Int.reduceEq, Nat.reduceLeDiff, Nat.reduceLT, Nat.reduceMul, Nat.reduceAdd, String.reduceEq, j0, j5, j6, j7, j8, hm4, hpk]
            refine hQ .normal _ ?_; clear hQ Q
            exact ⟨rfl, by simp [upd_apply, j0, j5, j6, j7, j8], by simp [hpk]⟩
        clear j0 j5 j6 j7 j8
        rintro e s5 ⟨rfl, ⟨j5, j6, j7, j8, j0⟩, hm5⟩
        generalize hk2e : (if decide (p < k) && (allB t digits && numOK t) then 2 else K1 : Int) = K2 at hm5
        refine TS.seq (TS.mono (Q := fun e s' => e = .normal ∧ (s'.t 5 = tokS m.rows.length acc ∧ s'.t 6 = ii p ∧ s'.t 7 = ii k ∧ s'.t 8 = .ptr m.objs.length 0 ∧ s'.t 0 = ss s) ∧ s'.m = ⟨m.objs ++ [.cells [ii (if signB t then 3 else K2), ss t, ii p]], (accM m acc.length).rows⟩) ?_ ?_)
        · refine TS.of [] fun Q hQ => ?_
          simp only [go_sem, Nat.reduceEqDiff, Nat.reduceBEq, Int.reduceToNat, Int.reduceLT, Int.reduceLE, Int.reduceEq, Nat.reduceLeDiff, Nat.reduceLT, Nat.reduceMul, Nat.reduceAdd, String.reduceEq, j0, j5, j6, j7, j8, hm5]
          refine cal_eq (sign_sim _ _ hesz) ?_
          cases hsi : signB t with
          | false =>
            simp only [go_sem, Nat.reduceEqDiff, Nat.reduceBEq, Int.reduceToNat, Int.reduceLT, Int.reduceLE, Int.reduceEq, Nat.reduceLeDiff, Nat.reduceLT, Nat.reduceMul, Nat.reduceAdd, String.reduceEq, j0, j5, j6, j7, j8, hm5]
            refine hQ .normal _ ?_; clear hQ Q
            exact ⟨rfl, by simp [upd_apply, j0, j5, j6, j7, j8], by simp [hsi]⟩
          | true =>
            simp only [go_sem, Nat.reduceEqDiff, Nat.reduceBEq, Int.reduceToNat, Int.reduceLT, Int.reduceLE, Int.reduceEq, Nat.reduceLeDiff, Nat.reduceLT, Nat.reduceMul, Nat.reduceAdd, String.reduceEq, j0, j5, j6, j7, j8, hm5]
            refine hQ .normal _ ?_; clear hQ Q
            exact ⟨rfl, by simp [upd_apply, j0, j5, j6, j7, j8], by simp [hsi]⟩
        clear j0 j5 j6 j7 j8
        rintro e s6 ⟨rfl, ⟨j5, j6, j7, j8, j0⟩, hm6⟩
        have hkd : (if signB t then 3 else K2 : Int) = kindT t (decide (p < k)) := by rw [← hk2e, ← hk1e]; rfl
        rw [hkd] at hm6
        by_cases hz : kindT t (decide (p < k)) = 0
        · rw [if_pos hz] at hc
          refine TS.of [] fun Q hQ => ?_
          simp only [go_sem, Nat.reduceEqDiff, Nat.reduceBEq, Int.reduceToNat, Int.reduceLT, Int.reduceLE, Int.reduceEq, Nat.reduceLeDiff, Nat.reduceLT, Nat.reduceMul, Nat.reduceAdd, String.reduceEq, j0, j5, j6, j7, j8, hm6, hz]
          refine hQ .ret _ ?_; clear hQ Q
          refine post_ret m.objs.length m.rows.length _ rfl rfl ?_ ⟨by rw [← hc]; rfl, rfl⟩
          refine DropW.tail [.cells [ii 0, ss t, ii p]] (if acc.length = 0 then [] else [acc.length]) ?_
          simp only [accM]; split <;> simp
        · rw [if_neg hz] at hc
          have hpk : p < k := by rw [← htt] at hz; exact kind_ne hz hk2
          generalize hkk : kindT t (decide (p < k)) = kk at hc hm6 hz
          have hal : encK (acc ++ [⟨kk, t, p⟩]) = encK acc ++ [ii kk, ss t, ii p] := by rw [encK_app]; rfl
          have hlen : (encK acc).length = acc.length * 3 := encK_length acc
          have hbound : (acc.length + 1) * 32 ≤ 140737488355328 := by omega
          have happ := acc_app m 60 acc.length 1 (by decide)
          refine TS.of [] fun Q hQ => ?_
          simp only [go_sem, Nat.reduceEqDiff, Nat.reduceBEq, Int.reduceToNat, Int.reduceLT, Int.reduceLE, Int.reduceEq, Nat.reduceLeDiff, Nat.reduceLT, Nat.reduceMul, Nat.reduceAdd, String.reduceEq, j0, j5, j6, j7, j8, hm6, hz, hlen, hbound, happ]
          refine hQ .normal _ ?_; clear hQ Q
          have hl1 : (acc ++ [⟨kk, t, p⟩] : List Tok).length = acc.length + 1 := by simp
          refine ⟨_, _, (f, k, acc ++ [⟨kk, t, p⟩]), DropW.acc [_] rfl rfl ?_ ?_, ?_, ⟨by dsimp only; omega, by dsimp only; omega, by dsimp only; simp; omega, hc⟩, by dsimp only; omega⟩
          · dsimp only; rw [hl1]
          · dsimp only; rw [hl1]; exact accM_len m _ _
          · dsimp only
            rw [hl1]
            simp [upd_apply, j0, hal, hl1, IV.np, accK_np, npK, npL_app, npL]
      · refine ⟨_, _, k - 1, DropW.same (by rw [hm3]), ?_, ⟨by omega, by omega, hl⟩, by omega⟩
        simp [i0, i5, i6, i7, IV.np, accK_np, npK]
  · obtain ⟨f, rfl⟩ : ∃ g, f = g + 1 := ⟨f - 1, by omega⟩
    have hpe : p = s.size := by omega
    have hno : (L s)[p]? = none := List.getElem?_eq_none (by rw [L_len]; omega)
    simp only [toksF, hno] at hc
    have hal : encK (acc ++ [⟨4, ByteArray.empty, s.size⟩]) = encK acc ++ [ii 4, ss ByteArray.empty, ii s.size] := by rw [encK_app]; rfl
    have hlen : (encK acc).length = acc.length * 3 := encK_length acc
    have hbound : (acc.length + 1) * 32 ≤ 140737488355328 := by omega
    have happ := acc_app m 60 acc.length 1 (by decide)
    refine TS.seq (TS.of [] fun Q hQ => ?_)
    simp only [go_sem, Nat.reduceEqDiff, Nat.reduceBEq, Int.reduceToNat, Int.reduceLT, Int.reduceLE, Int.reduceEq, Nat.reduceLeDiff, Nat.reduceLT, Nat.reduceMul, Nat.reduceAdd, String.reduceEq, h0, h5, h6, hm, hlt]
    refine hQ (.exit 0) _ ?_; clear hQ Q
    refine TS.of [] fun Q hQ => ?_
    simp only [go_sem, Nat.reduceEqDiff, Nat.reduceBEq, Int.reduceToNat, Int.reduceLT, Int.reduceLE, Int.reduceEq, Nat.reduceLeDiff, Nat.reduceLT, Nat.reduceMul, Nat.reduceAdd, String.reduceEq, h0, h5, h6, hm, hlen, hbound, happ]
    refine hQ .ret _ ?_; clear hQ Q
    refine post_ret m.objs.length m.rows.length _ rfl ?_ ?_ ⟨?_, rfl⟩
    · simp [upd_apply, IV.sh, IV.np, npL, npL_app, npK, SK.np]
    · exact DropW.rows_ [acc.length + 1] rfl (by simp [accM])
    · rw [← hc]
      simp [upd_apply, hal, IV.sh]
end Go.Proofs.Ytphjldhdnmoolaa.A
/- The walks of some functions over the abstract machine. -/
namespace Go.Proofs.Ytphjldhdnmoolaa.A
open Go
/-! the parser, as plain functions -/
def qOp : Bytes := ⟨#[111, 112]⟩
def qNeed : Bytes := ⟨#[110, 101, 101, 100]⟩
def qLet : Bytes := ⟨#[108, 101, 116]⟩
def qIf : Bytes := ⟨#[105, 102]⟩
def qElse : Bytes := ⟨#[101, 108, 115, 101]⟩
def qFor : Bytes := ⟨#[102, 111, 114]⟩
def qIn : Bytes := ⟨#[105, 110]⟩
def qGive : Bytes := ⟨#[103, 105, 118, 101]⟩
def qTrue : Bytes := ⟨#[116, 114, 117, 101]⟩
def qFalse : Bytes := ⟨#[102, 97, 108, 115, 101]⟩
def qOr : Bytes := ⟨#[124, 124]⟩
def qAnd : Bytes := ⟨#[38, 38]⟩
def qLt : Bytes := ⟨#[60]⟩
def qLe : Bytes := ⟨#[60, 61]⟩
def qGt : Bytes := ⟨#[62]⟩
def qGe : Bytes := ⟨#[62, 61]⟩
def qEq : Bytes := ⟨#[61, 61]⟩
def qNe : Bytes := ⟨#[33, 61]⟩
def qAdd : Bytes := ⟨#[43]⟩
def qSub : Bytes := ⟨#[45]⟩
def qMul : Bytes := ⟨#[42]⟩
def qDiv : Bytes := ⟨#[47]⟩
def qRem : Bytes := ⟨#[37]⟩
def qNot : Bytes := ⟨#[33]⟩
def qLB : Bytes := ⟨#[91]⟩
def qRB : Bytes := ⟨#[93]⟩
def qLP : Bytes := ⟨#[40]⟩
def qRP : Bytes := ⟨#[41]⟩
def qLC : Bytes := ⟨#[123]⟩
def qRC : Bytes := ⟨#[125]⟩
def qSet : Bytes := ⟨#[61]⟩
def qAddS : Bytes := ⟨#[43, 61]⟩
def qSubS : Bytes := ⟨#[45, 61]⟩
def qSwap : Bytes := ⟨#[60, 62]⟩
def qSemi : Bytes := ⟨#[59]⟩
def qComma : Bytes := ⟨#[44]⟩
def qDots : Bytes := ⟨#[46, 46]⟩
def qZero : Bytes := ⟨#[48]⟩

def tk (l : List Tok) (p : Int) : Tok := l.getD p.toNat ⟨4, ByteArray.empty, 0⟩
def isP (l : List Tok) (p : Int) (t : Bytes) : Bool := decide (0 ≤ p) && (!decide ((tk l p).k = 4) && decide ((tk l p).s = t))
def bad (p : Int) : Int := -1 - p
def eatP (l : List Tok) (p : Int) (t : Bytes) : Int := if p < 0 then p else if isP l p t then p + 1 else bad p
def wordP (l : List Tok) (p : Int) : Bytes × Int := if p < 0 then (ByteArray.empty, p) else if (tk l p).k ≠ 1 ∨ kw (tk l p).s = true then (ByteArray.empty, bad p) else ((tk l p).s, p + 1)
def digV (n : Int) (b : UInt8) : Int := IntKind.i64.wrap (IntKind.i64.wrap (10 * n) + IntKind.i64.wrap (IntKind.u8.wrap ((b.toNat : Int) - 48)))
def numV (s : Bytes) : Int := (L s).foldl digV 0
def numP (l : List Tok) (p : Int) : Int × Int := if p < 0 then (0, p) else if (tk l p).k ≠ 2 then (0, bad p) else (numV (tk l p).s, p + 1)
def level (s : Bytes) : Int := if s = qOr then 1 else if s = qAnd then 2 else if s = qLt ∨ s = qLe ∨ s = qGt ∨ s = qGe ∨ s = qEq ∨ s = qNe then 3 else if s = qAdd ∨ s = qSub then 4 else if s = qMul ∨ s = qDiv ∨ s = qRem then 5 else 0
abbrev E0 : Expr := .mk 0 0 ByteArray.empty [] 0
mutual
def exprF (l : List Tok) : Nat → Int → Int → Int → Expr × Int
  | 0, _, _, _ => (E0, -1)
  | f + 1, p, least, depth => loopF l f (smallF l f p depth).1 (smallF l f p depth).2 5 least depth
def loopF (l : List Tok) : Nat → Expr → Int → Int → Int → Int → Expr × Int
  | 0, _, _, _, _, _ => (E0, -1)
  | f + 1, left, p, most, least, depth =>
    if 0 ≤ p ∧ (tk l p).k = 3 then
      if level (tk l p).s < least ∨ most < level (tk l p).s ∨ level (tk l p).s = 0 then (left, p)
      else loopF l f (.mk 6 0 (tk l p).s [left, (exprF l f (p + 1) (level (tk l p).s + 1) depth).1] (tk l p).p) (exprF l f (p + 1) (level (tk l p).s + 1) depth).2 (if level (tk l p).s = 3 then 2 else level (tk l p).s) least depth
    else (left, p)
def smallF (l : List Tok) : Nat → Int → Int → Expr × Int
  | 0, _, _ => (E0, -1)
  | f + 1, p, depth =>
    if p < 0 then (E0, p)
    else if isP l p qNot || isP l p qSub then
      if 12 ≤ depth then (.mk 0 0 ByteArray.empty [] (tk l p).p, bad p)
      else (.mk (if (tk l p).s = qSub then 5 else 4) 0 ByteArray.empty [(smallF l f (p + 1) (depth + 1)).1] (tk l p).p, (smallF l f (p + 1) (depth + 1)).2)
    else if isP l p qLB then (.mk 3 0 ByteArray.empty [(aroundF l f p depth qLB qRB).1] (tk l p).p, (aroundF l f p depth qLB qRB).2)
    else if isP l p qLP then aroundF l f p depth qLP qRP
    else if (tk l p).k = 2 then (.mk 1 (numP l p).1 ByteArray.empty [] (tk l p).p, (numP l p).2)
    else if isP l p qTrue || isP l p qFalse then (.mk 2 0 (tk l p).s [] (tk l p).p, p + 1)
    else (.mk 2 0 (wordP l p).1 [] (tk l p).p, (wordP l p).2)
def aroundF (l : List Tok) : Nat → Int → Int → Bytes → Bytes → Expr × Int
  | 0, _, _, _, _ => (E0, -1)
  | f + 1, p, depth, a, b =>
    if decide (12 ≤ depth) && isP l p a then (E0, bad p)
    else ((exprF l f (eatP l p a) 1 (depth + 1)).1, eatP l (exprF l f (eatP l p a) 1 (depth + 1)).2 b)
end
def fuelE (l : List Tok) : Nat := 4 * l.length + 8
def expr (l : List Tok) (p least depth : Int) : Expr × Int := exprF l (fuelE l) p least depth
def around (l : List Tok) (p depth : Int) (a b : Bytes) : Expr × Int := aroundF l (fuelE l) p depth a b
abbrev S0 : Stmt := .mk 0 ByteArray.empty [] 0 [] [] 0
def swapEnd (l : List Tok) (next e : Int) : Int := if decide (e < 0) && !isP l (next + 1) qLB then bad (next + 1) else e
def cellS (l : List Tok) (p depth : Int) : Stmt × Int :=
  let left := around l p depth qLB qRB
  if isP l left.2 qSwap then
    let right := around l (left.2 + 1) depth qLB qRB
    (.mk 5 ByteArray.empty [left.1, right.1] 0 [] [] (tk l p).p, eatP l (swapEnd l left.2 right.2) qSemi)
  else if isP l left.2 qSet || (isP l left.2 qAddS || isP l left.2 qSubS) then
    let right := expr l (left.2 + 1) 1 depth
    (.mk (if isP l left.2 qSet then 2 else if isP l left.2 qAddS then 3 else 4) ByteArray.empty [left.1, right.1] 0 [] [] (tk l p).p, eatP l right.2 qSemi)
  else (.mk 0 ByteArray.empty [] 0 [] [] (tk l p).p, if left.2 < 0 then left.2 else bad left.2)
mutual
def stmtF (l : List Tok) : Nat → Int → Int → Stmt × Int
  | 0, _, _ => (S0, -1)
  | f + 1, p, depth =>
    if isP l p qLB then cellS l p depth
    else if isP l p qLet then
      (.mk 1 (wordP l (p + 1)).1 [(expr l (eatP l (wordP l (p + 1)).2 qSet) 1 depth).1] 0 [] [] (tk l p).p, eatP l (expr l (eatP l (wordP l (p + 1)).2 qSet) 1 depth).2 qSemi)
    else if isP l p qIf then
      if isP l (blockF l f (expr l (p + 1) 1 depth).2 depth).2 qElse then
        (.mk 6 ByteArray.empty [(expr l (p + 1) 1 depth).1] 0 (blockF l f (expr l (p + 1) 1 depth).2 depth).1 (blockF l f ((blockF l f (expr l (p + 1) 1 depth).2 depth).2 + 1) depth).1 (tk l p).p, (blockF l f ((blockF l f (expr l (p + 1) 1 depth).2 depth).2 + 1) depth).2)
      else (.mk 6 ByteArray.empty [(expr l (p + 1) 1 depth).1] 0 (blockF l f (expr l (p + 1) 1 depth).2 depth).1 [] (tk l p).p, (blockF l f (expr l (p + 1) 1 depth).2 depth).2)
    else if isP l p qFor then
      (.mk 7 (wordP l (p + 1)).1 [] (numP l (eatP l (eatP l (eatP l (wordP l (p + 1)).2 qIn) qZero) qDots)).1 (blockF l f (numP l (eatP l (eatP l (eatP l (wordP l (p + 1)).2 qIn) qZero) qDots)).2 depth).1 [] (tk l p).p,
        (blockF l f (numP l (eatP l (eatP l (eatP l (wordP l (p + 1)).2 qIn) qZero) qDots)).2 depth).2)
    else (.mk 0 ByteArray.empty [] 0 [] [] (tk l p).p, bad p)
def blockF (l : List Tok) : Nat → Int → Int → List Stmt × Int
  | 0, _, _ => ([], -1)
  | f + 1, p, depth => if decide (12 ≤ depth) && isP l p qLC then ([], bad p) else loopB l f [] (eatP l p qLC) depth
def loopB (l : List Tok) : Nat → List Stmt → Int → Int → List Stmt × Int
  | 0, _, _, _ => ([], -1)
  | f + 1, acc, p, depth => if decide (0 ≤ p) && !isP l p qRC then loopB l f (acc ++ [(stmtF l f p (depth + 1)).1]) (stmtF l f p (depth + 1)).2 depth else (acc, eatP l p qRC)
end
def fuelS (l : List Tok) : Nat := 3 * l.length + 8
def stmt (l : List Tok) (p depth : Int) : Stmt × Int := stmtF l (fuelS l) p depth
def loopP (l : List Tok) : Nat → List Bytes → Int → Bool → List Bytes × Int
  | 0, _, _, _ => ([], -1)
  | f + 1, acc, p, first => if decide (0 ≤ p) && !(first && isP l p qRP) then
      if isP l (wordP l p).2 qComma then loopP l f (acc ++ [(wordP l p).1]) ((wordP l p).2 + 1) false else (acc ++ [(wordP l p).1], (wordP l p).2)
    else (acc, p)
def loopN (l : List Tok) : Nat → List Expr → Int → List Expr × Int
  | 0, _, _ => ([], -1)
  | f + 1, acc, p => if isP l p qNeed then loopN l f (acc ++ [(expr l (p + 1) 1 1).1]) (eatP l (expr l (p + 1) 1 1).2 qSemi) else (acc, p)
def loopD (l : List Tok) : Nat → List Stmt → Int → List Stmt × Int
  | 0, _, _ => ([], -1)
  | f + 1, acc, p => if decide (0 ≤ p) && (!isP l p qGive && !isP l p qRC) then loopD l f (acc ++ [(stmt l p 1).1]) (stmt l p 1).2 else (acc, p)
def defP (l : List Tok) : Def × Int :=
  let name := wordP l (eatP l 0 qOp)
  let params := loopP l (l.length + 2) [] (eatP l name.2 qLP) true
  let needs := loopN l (l.length + 2) [] (eatP l (eatP l params.2 qRP) qLC)
  let body := loopD l (l.length + 2) [] needs.2
  if isP l body.2 qGive then
    let give := expr l (body.2 + 1) 1 1
    (⟨name.1, params.1, needs.1, body.1, [give.1]⟩, eatP l (eatP l give.2 qSemi) qRC)
  else (⟨name.1, params.1, needs.1, body.1, []⟩, eatP l body.2 qRC)
abbrev D0 : Def := ⟨ByteArray.empty, [], [], [], []⟩
def fixP (l : List Tok) (p : Int) : Int := if decide (0 ≤ p) && !decide ((tk l p).k = 4) then bad p else p
def parse (s : Bytes) : Def × Int × Int :=
  let t := tokens s
  if t.2.1 ≠ 0 then (D0, t.2.1, t.2.2)
  else let d := defP t.1
    if fixP t.1 d.2 < 0 then (D0, 8, (tk t.1 (-1 - fixP t.1 d.2)).p) else (d.1, 0, 0)
end Go.Proofs.Ytphjldhdnmoolaa.A
/- The walks of some functions over the abstract machine. -/
namespace Go.Proofs.Ytphjldhdnmoolaa.A
open Go
structure Toks (l : List Tok) : Prop where
  pos : 0 < l.length
  lt : l.length < 900000
  last : ∀ p : Int, 0 ≤ p → p < l.length → (tk l p).k ≠ 4 → p + 1 < l.length
def okA (l : List Tok) (p : Int) : Prop := -(l.length : Int) ≤ p ∧ p < l.length
/-- Behind p, or a fault. -/
def adv (l : List Tok) (p q : Int) : Prop := okA l q ∧ (q < 0 ∨ (0 ≤ p ∧ p < q))
def adv0 (l : List Tok) (p q : Int) : Prop := okA l q ∧ (q < 0 ∨ (0 ≤ p ∧ p ≤ q))
set_option linter.unusedSectionVars false
section
variable {l : List Tok} (T : Toks l)
include T
theorem okA_neg : okA l (-1) := ⟨by have := T.pos; omega, by omega⟩
theorem bad_adv {p q : Int} (h : okA l q) (h0 : 0 ≤ q) : adv l p (bad q) := by
  obtain ⟨h1, h2⟩ := h; unfold adv okA bad; omega
theorem isP_k {p : Int} {t : Bytes} (h : isP l p t = true) : 0 ≤ p ∧ (tk l p).k ≠ 4 ∧ (tk l p).s = t := by
  unfold isP at h
  simp only [Bool.and_eq_true, Bool.not_eq_true', decide_eq_true_eq, decide_eq_false_iff_not] at h
  exact ⟨h.1, h.2.1, h.2.2⟩
theorem isP_lt {p : Int} {t : Bytes} (ho : okA l p) (h : isP l p t = true) : 0 ≤ p ∧ okA l (p + 1) := by
  obtain ⟨h0, h1, _⟩ := isP_k T h
  have := T.last p h0 ho.2 h1
  have h2 := ho.1
  exact ⟨h0, ⟨by omega, this⟩⟩
theorem eatP_adv {p : Int} {t : Bytes} (ho : okA l p) : adv l p (eatP l p t) := by
  unfold eatP
  split
  · exact ⟨ho, .inl (by assumption)⟩
  · split
    · obtain ⟨h0, h1⟩ := isP_lt T ho (by assumption); exact ⟨h1, .inr ⟨h0, by omega⟩⟩
    · exact bad_adv T ho (by omega)
theorem wordP_adv {p : Int} (ho : okA l p) : adv l p (wordP l p).2 := by
  unfold wordP
  split
  · exact ⟨ho, .inl (by assumption)⟩
  · split
    · exact bad_adv T ho (by omega)
    · rename_i h1 h2
      have h0 : 0 ≤ p := by omega
      have := T.last p h0 ho.2 (by intro e; apply h2; left; omega)
      exact ⟨⟨by dsimp only; omega, this⟩, .inr ⟨h0, by dsimp only; omega⟩⟩
theorem numP_adv {p : Int} (ho : okA l p) : adv l p (numP l p).2 := by
  unfold numP
  split
  · exact ⟨ho, .inl (by assumption)⟩
  · split
    · exact bad_adv T ho (by omega)
    · rename_i h1 h2
      have h0 : 0 ≤ p := by omega
      have := T.last p h0 ho.2 (by intro e; apply h2; omega)
      exact ⟨⟨by dsimp only; omega, this⟩, .inr ⟨h0, by dsimp only; omega⟩⟩
omit T in
theorem adv.trans {p q r : Int} (h : adv l p q) (g : adv l q r) : adv l p r := by
  unfold adv at *; exact ⟨g.1, by omega⟩
omit T in
theorem adv.trans0 {p q r : Int} (h : adv l p q) (g : adv0 l q r) : adv l p r := by
  unfold adv adv0 at *; exact ⟨g.1, by omega⟩
omit T in
theorem adv.to0 {p q : Int} (h : adv l p q) : adv0 l p q := by unfold adv adv0 at *; exact ⟨h.1, by omega⟩
omit T in
theorem adv0.trans {p q r : Int} (h : adv0 l p q) (g : adv0 l q r) : adv0 l p r := by
  unfold adv0 at *; exact ⟨g.1, by omega⟩
theorem neg1_adv {p : Int} : adv l p (-1) := ⟨okA_neg T, .inl (by omega)⟩
theorem expr_adv : ∀ f, (∀ p least depth, okA l p → adv l p (exprF l f p least depth).2) ∧ (∀ left p most least depth, okA l p → adv0 l p (loopF l f left p most least depth).2) ∧ (∀ p depth, okA l p → adv l p (smallF l f p depth).2) ∧ (∀ p depth a b, okA l p → adv l p (aroundF l f p depth a b).2) := by
  intro f
  induction f with
  | zero => exact ⟨fun _ _ _ _ => neg1_adv T, fun _ _ _ _ _ _ => (neg1_adv T).to0, fun _ _ _ => neg1_adv T, fun _ _ _ _ _ => neg1_adv T⟩
  | succ f ih =>
    obtain ⟨ihE, ihL, ihS, ihA⟩ := ih
    refine ⟨fun p least depth ho => ?_, fun left p most least depth ho => ?_, fun p depth ho => ?_, fun p depth a b ho => ?_⟩
    · rw [exprF]
      exact (ihS p depth ho).trans0 (ihL _ _ _ _ _ (ihS p depth ho).1)
    · rw [loopF]
      split
      · rename_i hc
        split
        · exact ⟨ho, .inr ⟨hc.1, Int.le_refl _⟩⟩
        · have hl := T.last p hc.1 ho.2 (by rw [hc.2]; decide)
          have ho1 : okA l (p + 1) := ⟨by omega, hl⟩
          have h1 := ihE (p + 1) (level (tk l p).s + 1) depth ho1
          have h2 := ihL (.mk 6 0 (tk l p).s [left, (exprF l f (p + 1) (level (tk l p).s + 1) depth).1] (tk l p).p) _ (if level (tk l p).s = 3 then 2 else level (tk l p).s) least depth h1.1
          unfold adv adv0 at *
          exact ⟨h2.1, by omega⟩
      · by_cases h0 : p < 0
        · exact ⟨ho, .inl h0⟩
        · exact ⟨ho, .inr ⟨by omega, Int.le_refl _⟩⟩
    · rw [smallF]
      split
      · exact ⟨ho, .inl (by assumption)⟩
      · rename_i hneg
        have h0 : 0 ≤ p := by omega
        split
        · rename_i his
          have hp1 : okA l (p + 1) := by
            simp only [Bool.or_eq_true] at his
            rcases his with h | h
            · exact (isP_lt T ho h).2
            · exact (isP_lt T ho h).2
          split
          · exact bad_adv T ho h0
          · have := ihS (p + 1) (depth + 1) hp1
            unfold adv at *
            exact ⟨this.1, by dsimp only; omega⟩
        · split
          · exact ihA p depth qLB qRB ho
          · split
            · exact ihA p depth qLP qRP ho
            · split
              · exact numP_adv T ho
              · split
                · rename_i his
                  simp only [Bool.or_eq_true] at his
                  rcases his with h | h
                  · exact ⟨(isP_lt T ho h).2, .inr ⟨h0, by dsimp only; omega⟩⟩
                  · exact ⟨(isP_lt T ho h).2, .inr ⟨h0, by dsimp only; omega⟩⟩
                · exact wordP_adv T ho
    · rw [aroundF]
      split
      · rename_i hc
        simp only [Bool.and_eq_true] at hc
        exact bad_adv T ho (isP_lt T ho hc.2).1
      · have h1 := eatP_adv T (t := a) ho
        have h2 := ihE (eatP l p a) 1 (depth + 1) h1.1
        exact (h1.trans h2).trans (eatP_adv T h2.1)
theorem expr_adv1 {p least depth : Int} (ho : okA l p) : adv l p (expr l p least depth).2 := (expr_adv T _).1 p least depth ho
theorem around_adv1 {p depth : Int} {a b : Bytes} (ho : okA l p) : adv l p (around l p depth a b).2 := (expr_adv T _).2.2.2 p depth a b ho
theorem cellS_adv {p depth : Int} (ho : okA l p) (h0 : 0 ≤ p) : adv l p (cellS l p depth).2 := by
  have h1 := around_adv1 T (depth := depth) (a := qLB) (b := qRB) ho
  unfold cellS
  dsimp only
  split
  · rename_i hs
    have hl := isP_lt T h1.1 hs
    have h2 := around_adv1 T (depth := depth) (a := qLB) (b := qRB) hl.2
    have h3 : adv l p (swapEnd l (around l p depth qLB qRB).2 (around l ((around l p depth qLB qRB).2 + 1) depth qLB qRB).2) := by
      unfold swapEnd
      split
      · exact bad_adv T hl.2 (by omega)
      · unfold adv at *; exact ⟨h2.1, by omega⟩
    exact h3.trans (eatP_adv T h3.1)
  · split
    · rename_i hs
      have hl : 0 ≤ (around l p depth qLB qRB).2 ∧ okA l ((around l p depth qLB qRB).2 + 1) := by
        simp only [Bool.or_eq_true] at hs
        rcases hs with h | h | h <;> exact isP_lt T h1.1 h
      have h2 := expr_adv1 T (least := 1) (depth := depth) hl.2
      have h3 : adv l p (expr l ((around l p depth qLB qRB).2 + 1) 1 depth).2 := by unfold adv at *; exact ⟨h2.1, by omega⟩
      exact h3.trans (eatP_adv T h3.1)
    · dsimp only
      split
      · exact h1
      · exact bad_adv T h1.1 (by omega)
theorem stmt_adv : ∀ f, (∀ p depth, okA l p → 0 ≤ p → adv l p (stmtF l f p depth).2) ∧ (∀ p depth, okA l p → adv l p (blockF l f p depth).2) ∧ (∀ acc p depth, okA l p → adv l p (loopB l f acc p depth).2) := by
  intro f
  induction f with
  | zero => exact ⟨fun _ _ _ _ => neg1_adv T, fun _ _ _ => neg1_adv T, fun _ _ _ _ => neg1_adv T⟩
  | succ f ih =>
    obtain ⟨ihS, ihB, ihL⟩ := ih
    refine ⟨fun p depth ho h0 => ?_, fun p depth ho => ?_, fun acc p depth ho => ?_⟩
    · rw [stmtF]
      split
      · exact cellS_adv T ho h0
      · split
        · rename_i hs
          have h1 := wordP_adv T (isP_lt T ho hs).2
          have h2 := eatP_adv T (t := qSet) h1.1
          have h3 := expr_adv1 T (least := 1) (depth := depth) h2.1
          have h4 := eatP_adv T (t := qSemi) h3.1
          have := ((h1.trans h2).trans h3).trans h4
          unfold adv at *; exact ⟨this.1, by dsimp only; omega⟩
        · split
          · rename_i hs
            have h1 := expr_adv1 T (least := 1) (depth := depth) (isP_lt T ho hs).2
            have h2 := ihB _ depth h1.1
            split
            · rename_i he
              have h3 := ihB _ depth (isP_lt T h2.1 he).2
              have h5 := (isP_lt T h2.1 he).1
              have := h1.trans h2
              unfold adv at *; exact ⟨h3.1, by dsimp only; omega⟩
            · have := h1.trans h2
              unfold adv at *; exact ⟨h2.1, by dsimp only; omega⟩
          · split
            · rename_i hs
              have h1 := wordP_adv T (isP_lt T ho hs).2
              have h2 := eatP_adv T (t := qIn) h1.1
              have h3 := eatP_adv T (t := qZero) h2.1
              have h4 := eatP_adv T (t := qDots) h3.1
              have h5 := numP_adv T h4.1
              have h6 := ihB _ depth h5.1
              have := ((((h1.trans h2).trans h3).trans h4).trans h5).trans h6
              unfold adv at *; exact ⟨this.1, by dsimp only; omega⟩
            · exact bad_adv T ho h0
    · rw [blockF]
      split
      · rename_i hc
        simp only [Bool.and_eq_true] at hc
        exact bad_adv T ho (isP_lt T ho hc.2).1
      · have h1 := eatP_adv T (t := qLC) ho
        exact h1.trans (ihL _ _ _ h1.1)
    · rw [loopB]
      split
      · rename_i hc
        simp only [Bool.and_eq_true, decide_eq_true_eq] at hc
        have h1 := ihS p (depth + 1) ho hc.1
        exact h1.trans (ihL _ _ _ h1.1)
      · exact eatP_adv T ho
theorem stmt_adv1 {p depth : Int} (ho : okA l p) (h0 : 0 ≤ p) : adv l p (stmt l p depth).2 := (stmt_adv T _).1 p depth ho h0
end
end Go.Proofs.Ytphjldhdnmoolaa.A
/- The walks of some functions over the abstract machine. -/
namespace Go.Proofs.Ytphjldhdnmoolaa.A
open Go
theorem tk_at {l : List Tok} {n : Nat} (h : n < l.length) : l[n]? = some (tk l n) := by
  unfold tk
  rw [Int.toNat_natCast, List.getD_eq_getElem?_getD, List.getElem?_eq_getElem h]; rfl
theorem encK_lt {l : List Tok} {n : Nat} (h : n < l.length) : n * 3 < (encK l).length := by rw [encK_length]; omega
theorem nat_of {p : Int} (h : 0 ≤ p) : ∃ n : Nat, p = n := ⟨p.toNat, by omega⟩
set_option maxRecDepth 100000 in
set_option maxHeartbeats 4000000 in
theorem bad_sim (m : Mem) (p : Int) (h : -1000000 ≤ p ∧ p ≤ 1000000) : Sim 47 [ii p] m (fun r m' => r = ii (bad p) ∧ m' = m) := by
  refine Sim.ofS 5 [.tmp 2] Try.func47 rfl rfl rfl (by simp) fun wr => ?_
  simp only [go_sem, Nat.reduceEqDiff, Nat.reduceBEq, Int.reduceToNat, Int.reduceLT, Int.reduceLE, Int.reduceEq, Nat.reduceLeDiff, Nat.reduceLT, Nat.reduceMul, Nat.reduceAdd, String.reduceEq]
  have hw : IntKind.i64.wrap (-1 - p) = bad p := wrap_small (by omega) (by omega)
  refine TS.of [] fun Q hQ => ?_
  simp only [go_sem, Nat.reduceEqDiff, Nat.reduceBEq, Int.reduceToNat, Int.reduceLT, Int.reduceLE, Int.reduceEq, Nat.reduceLeDiff, Nat.reduceLT, Nat.reduceMul, Nat.reduceAdd, String.reduceEq, hw]
  refine hQ .ret _ ?_; exact post_ret _ _ _ rfl rfl (DropW.refl _) ⟨by simp [upd_apply, IV.sh], rfl⟩
set_option maxRecDepth 100000 in
set_option maxHeartbeats 4000000 in
theorem is_sim (m : Mem) (l : List Tok) (p : Int) (t : Bytes) (h : p < l.length) : Sim 74 [slK l, ii p, ss t] m (fun r m' => r = bb (isP l p t) ∧ m' = m) := by
  refine Sim.ofS 26 [.tmp 6] Try.func74 rfl rfl rfl (by simp) fun wr => ?_
  simp only [go_sem, Nat.reduceEqDiff, Nat.reduceBEq, Int.reduceToNat, Int.reduceLT, Int.reduceLE, Int.reduceEq, Nat.reduceLeDiff, Nat.reduceLT, Nat.reduceMul, Nat.reduceAdd, String.reduceEq]
  refine TS.of [] fun Q hQ => ?_
  by_cases h0 : 0 ≤ p
  · obtain ⟨n, rfl⟩ := nat_of h0
    have hlt : n < l.length := by omega
    have hat := encK_at (tk_at hlt)
    have hl3 := encK_lt hlt
    by_cases h4 : (tk l n).k = 4
    · simp only [go_sem, Nat.reduceEqDiff, Nat.reduceBEq, Int.reduceToNat, Int.reduceLT, Int.reduceLE, Int.reduceEq, Nat.reduceLeDiff, Nat.reduceLT, Nat.reduceMul, Nat.reduceAdd, String.reduceEq, h0, hlt, hat, hl3, h4]
      refine hQ .ret _ ?_; exact post_ret _ _ _ rfl rfl (DropW.refl _) ⟨by simp [isP, h4, upd_apply, IV.sh], rfl⟩
    · simp only [go_sem, Nat.reduceEqDiff, Nat.reduceBEq, Int.reduceToNat, Int.reduceLT, Int.reduceLE, Int.reduceEq, Nat.reduceLeDiff, Nat.reduceLT, Nat.reduceMul, Nat.reduceAdd, String.reduceEq, h0, hlt, hat, hl3, h4]
      refine hQ .ret _ ?_; exact post_ret _ _ _ rfl rfl (DropW.refl _) ⟨by simp [isP, h4, upd_apply, IV.sh], rfl⟩
  · simp only [go_sem, Nat.reduceEqDiff, Nat.reduceBEq, Int.reduceToNat, Int.reduceLT, Int.reduceLE, Int.reduceEq, Nat.reduceLeDiff, Nat.reduceLT, Nat.reduceMul, Nat.reduceAdd, String.reduceEq, h0]
    refine hQ .ret _ ?_; exact post_ret _ _ _ rfl rfl (DropW.refl _) ⟨by simp [isP, h0, upd_apply, IV.sh], rfl⟩
set_option maxRecDepth 100000 in
set_option maxHeartbeats 4000000 in
theorem eat_sim (m : Mem) (l : List Tok) (p : Int) (t : Bytes) (h : okA l p) (hl : l.length < 900000) : Sim 73 [slK l, ii p, ss t] m (fun r m' => r = ii (eatP l p t) ∧ m' = m) := by
  obtain ⟨h1, h2⟩ := h
  refine Sim.ofS 19 [.tmp 6] Try.func73 rfl rfl rfl (by simp) fun wr => ?_
  simp only [go_sem, Nat.reduceEqDiff, Nat.reduceBEq, Int.reduceToNat, Int.reduceLT, Int.reduceLE, Int.reduceEq, Nat.reduceLeDiff, Nat.reduceLT, Nat.reduceMul, Nat.reduceAdd, String.reduceEq]
  refine TS.of [] fun Q hQ => ?_
  by_cases h0 : p < 0
  · simp only [go_sem, Nat.reduceEqDiff, Nat.reduceBEq, Int.reduceToNat, Int.reduceLT, Int.reduceLE, Int.reduceEq, Nat.reduceLeDiff, Nat.reduceLT, Nat.reduceMul, Nat.reduceAdd, String.reduceEq, h0]
    refine hQ .ret _ ?_; exact post_ret _ _ _ rfl rfl (DropW.refl _) ⟨by simp [eatP, h0, upd_apply, IV.sh], rfl⟩
  · have hw : IntKind.i64.wrap (p + 1) = p + 1 := wrap_small (by omega) (by omega)
    simp only [go_sem, Nat.reduceEqDiff, Nat.reduceBEq, Int.reduceToNat, Int.reduceLT, Int.reduceLE, Int.reduceEq, Nat.reduceLeDiff, Nat.reduceLT, Nat.reduceMul, Nat.reduceAdd, String.reduceEq, h0]
    refine cal_eq (is_sim m l p t h2) ?_
    cases hi : isP l p t with
    | true =>
      simp only [go_sem, Nat.reduceEqDiff, Nat.reduceBEq, Int.reduceToNat, Int.reduceLT, Int.reduceLE, Int.reduceEq, Nat.reduceLeDiff, Nat.reduceLT, Nat.reduceMul, Nat.reduceAdd, String.reduceEq, hw]
      refine hQ .ret _ ?_; exact post_ret _ _ _ rfl rfl (DropW.refl _) ⟨by simp [eatP, h0, hi, upd_apply, IV.sh], rfl⟩
    | false =>
      simp only [go_sem, Nat.reduceEqDiff, Nat.reduceBEq, Int.reduceToNat, Int.reduceLT, Int.reduceLE, Int.reduceEq, Nat.reduceLeDiff, Nat.reduceLT, Nat.reduceMul, Nat.reduceAdd, String.reduceEq]
      refine cal_eq (bad_sim m p (by omega)) ?_
      simp only [go_sem, Nat.reduceEqDiff, Nat.reduceBEq, Int.reduceToNat, Int.reduceLT, Int.reduceLE, Int.reduceEq, Nat.reduceLeDiff, Nat.reduceLT, Nat.reduceMul, Nat.reduceAdd, String.reduceEq]
      refine hQ .ret _ ?_; exact post_ret _ _ _ rfl rfl (DropW.refl _) ⟨by simp [eatP, h0, hi, upd_apply, IV.sh], rfl⟩
set_option maxRecDepth 100000 in
set_option maxHeartbeats 4000000 in
theorem wordP_sim (m : Mem) (l : List Tok) (p : Int) (h : okA l p) (hl : l.length < 900000) : Sim 72 [slK l, ii p] m (fun r m' => r = .tup [ss (wordP l p).1, ii (wordP l p).2] ∧ m' = m) := by
  obtain ⟨h1, h2⟩ := h
  refine Sim.ofS 32 [.tmp 4, .tmp 5] Try.func72 rfl rfl rfl (by simp) fun wr => ?_
  simp only [go_sem, Nat.reduceEqDiff, Nat.reduceBEq, Int.reduceToNat, Int.reduceLT, Int.reduceLE, Int.reduceEq, Nat.reduceLeDiff, Nat.reduceLT, Nat.reduceMul, Nat.reduceAdd, String.reduceEq]
  refine TS.of [] fun Q hQ => ?_
  by_cases h0 : p < 0
  · simp only [go_sem, Nat.reduceEqDiff, Nat.reduceBEq, Int.reduceToNat, Int.reduceLT, Int.reduceLE, Int.reduceEq, Nat.reduceLeDiff, Nat.reduceLT, Nat.reduceMul, Nat.reduceAdd, String.reduceEq, h0]
    refine hQ .ret _ ?_; exact post_ret _ _ _ rfl rfl (DropW.refl _) ⟨by simp only [wordP, h0, if_true]; rfl, rfl⟩
  · obtain ⟨n, rfl⟩ := nat_of (p := p) (by omega)
    have hlt : n < l.length := by omega
    have hat := encK_at (tk_at hlt)
    have hl3 := encK_lt hlt
    have h0' : (0 : Int) ≤ (n : Int) := by omega
    have hw : IntKind.i64.wrap ((n : Int) + 1) = (n : Int) + 1 := wrap_small (by omega) (by omega)
    by_cases h4 : (tk l n).k = 1
    · simp only [go_sem, Nat.reduceEqDiff, Nat.reduceBEq, Int.reduceToNat, Int.reduceLT, Int.reduceLE, Int.reduceEq, Nat.reduceLeDiff, Nat.reduceLT, Nat.reduceMul, Nat.reduceAdd, String.reduceEq, h0, h0', hlt, hat, hl3, h4]
      refine cal_eq (kw_sim m (tk l n).s) ?_
      cases hi : kw (tk l n).s with
      | true =>
        simp only [go_sem, Nat.reduceEqDiff, Nat.reduceBEq, Int.reduceToNat, Int.reduceLT, Int.reduceLE, Int.reduceEq, Nat.reduceLeDiff, Nat.reduceLT, Nat.reduceMul, Nat.reduceAdd, String.reduceEq]
        refine cal_eq (bad_sim m n (by omega)) ?_
        simp only [go_sem, Nat.reduceEqDiff, Nat.reduceBEq, Int.reduceToNat, Int.reduceLT, Int.reduceLE, Int.reduceEq, Nat.reduceLeDiff, Nat.reduceLT, Nat.reduceMul, Nat.reduceAdd, String.reduceEq]
        refine hQ .ret _ ?_; exact post_ret _ _ _ rfl rfl (DropW.refl _) ⟨by simp only [wordP, h0, h4, hi, if_false, or_true, if_true]; rfl, rfl⟩
      | false =>
        simp only [go_sem, Nat.reduceEqDiff, Nat.reduceBEq, Int.reduceToNat, Int.reduceLT, Int.reduceLE, Int.reduceEq, Nat.reduceLeDiff, Nat.reduceLT, Nat.reduceMul, Nat.reduceAdd, String.reduceEq, h0, h0', hlt, hat, hl3, h4, hw]
        refine hQ .ret _ ?_; exact post_ret _ _ _ rfl rfl (DropW.refl _) ⟨by simp only [wordP, h0, h4, hi, if_false]; rfl, rfl⟩
    · simp only [go_sem, Nat.reduceEqDiff, Nat.reduceBEq, Int.reduceToNat, Int.reduceLT, Int.reduceLE, Int.reduceEq, Nat.reduceLeDiff, Nat.reduceLT, Nat.reduceMul, Nat.reduceAdd, String.reduceEq, h0, h0', hlt, hat, hl3, h4]
      refine cal_eq (bad_sim m n (by omega)) ?_
      simp only [go_sem, Nat.reduceEqDiff, Nat.reduceBEq, Int.reduceToNat, Int.reduceLT, Int.reduceLE, Int.reduceEq, Nat.reduceLeDiff, Nat.reduceLT, Nat.reduceMul, Nat.reduceAdd, String.reduceEq]
      refine hQ .ret _ ?_; exact post_ret _ _ _ rfl rfl (DropW.refl _) ⟨by simp only [wordP, h0, h4, if_false, ne_eq, not_false_eq_true, true_or, if_true]; rfl, rfl⟩
set_option maxRecDepth 100000 in
set_option maxHeartbeats 4000000 in
theorem level_sim (m : Mem) (s : Bytes) : Sim 91 [ss s] m (fun r m' => r = ii (level s) ∧ m' = m) := by
  refine Sim.ofS 22 [.tmp 2] Try.func91 rfl rfl rfl (by simp) fun wr => ?_
  simp only [go_sem, Nat.reduceEqDiff, Nat.reduceBEq, Int.reduceToNat, Int.reduceLT, Int.reduceLE, Int.reduceEq, Nat.reduceLeDiff, Nat.reduceLT, Nat.reduceMul, Nat.reduceAdd, String.reduceEq]
  refine TS.of [] fun Q hQ => ?_
  simp only [go_sem, Nat.reduceEqDiff, Nat.reduceBEq, Int.reduceToNat, Int.reduceLT, Int.reduceLE, Int.reduceEq, Nat.reduceLeDiff, Nat.reduceLT, Nat.reduceMul, Nat.reduceAdd, String.reduceEq]
  (repeat' first | refine And.intro ?_ ?_ | intro _)
  all_goals first | (exfalso; contradiction) | (refine hQ .ret _ ?_; refine post_ret _ _ _ rfl rfl (DropW.refl _) ⟨?_, rfl⟩; simp only [upd_apply, IV.sh, Nat.reduceEqDiff, if_true, if_false]; simp [level, qOr, qAnd, qLt, qLe, qGt, qGe, qEq, qNe, qAdd, qSub, qMul, qDiv, qRem, *])
end Go.Proofs.Ytphjldhdnmoolaa.A
/- The walks of some functions over the abstract machine. -/
namespace Go.Proofs.Ytphjldhdnmoolaa.A
open Go
set_option maxRecDepth 100000 in
set_option maxHeartbeats 4000000 in
theorem numP_sim (m : Mem) (l : List Tok) (p : Int) (h : okA l p) (hl : l.length < 900000) (hsz : (tk l p).s.size < 900000) : Sim 94 [slK l, ii p] m (fun r m' => r = .tup [ii (numP l p).1, ii (numP l p).2] ∧ m' = m) := by
  obtain ⟨h1, h2⟩ := h
  refine Sim.ofS 44 [.tmp 4, .tmp 5] Try.func94 rfl rfl rfl (by simp) fun wr => ?_
  simp only [go_sem, Nat.reduceEqDiff, Nat.reduceBEq, Int.reduceToNat, Int.reduceLT, Int.reduceLE, Int.reduceEq, Nat.reduceLeDiff, Nat.reduceLT, Nat.reduceMul, Nat.reduceAdd, String.reduceEq]
  refine TS.seq (TS.of [] fun Q hQ => ?_)
  simp only [go_sem, Nat.reduceEqDiff, Nat.reduceBEq, Int.reduceToNat, Int.reduceLT, Int.reduceLE, Int.reduceEq, Nat.reduceLeDiff, Nat.reduceLT, Nat.reduceMul, Nat.reduceAdd, String.reduceEq]
  refine hQ .normal _ ?_; clear hQ Q
  by_cases h0 : p < 0
  · refine TS.seq (TS.of [] fun Q hQ => ?_)
    simp only [go_sem, Nat.reduceEqDiff, Nat.reduceBEq, Int.reduceToNat, Int.reduceLT, Int.reduceLE, Int.reduceEq, Nat.reduceLeDiff, Nat.reduceLT, Nat.reduceMul, Nat.reduceAdd, String.reduceEq, h0]
    refine hQ .ret _ ?_; exact post_ret _ _ _ rfl rfl (DropW.refl _) ⟨by simp only [numP, h0, if_true]; rfl, rfl⟩
  obtain ⟨n, rfl⟩ := nat_of (p := p) (by omega)
  have hlt : n < l.length := by omega
  have hat := encK_at (tk_at hlt)
  have hl3 := encK_lt hlt
  have h0' : (0 : Int) ≤ (n : Int) := by omega
  have hw : IntKind.i64.wrap ((n : Int) + 1) = (n : Int) + 1 := wrap_small (by omega) (by omega)
  refine TS.seq (TS.of [] fun Q hQ => ?_)
  simp only [go_sem, Nat.reduceEqDiff, Nat.reduceBEq, Int.reduceToNat, Int.reduceLT, Int.reduceLE, Int.reduceEq, Nat.reduceLeDiff, Nat.reduceLT, Nat.reduceMul, Nat.reduceAdd, String.reduceEq, h0]
  refine hQ .normal _ ?_; clear hQ Q
  by_cases h4 : (tk l n).k = 2
  · refine TS.seq (TS.of [] fun Q hQ => ?_)
    simp only [go_sem, Nat.reduceEqDiff, Nat.reduceBEq, Int.reduceToNat, Int.reduceLT, Int.reduceLE, Int.reduceEq, Nat.reduceLeDiff, Nat.reduceLT, Nat.reduceMul, Nat.reduceAdd, String.reduceEq, h0, h0', hlt, hat, hl3, h4]
    refine hQ .normal _ ?_; clear hQ Q
    refine TS.seq (TS.of [] fun Q hQ => ?_)
    simp only [go_sem, Nat.reduceEqDiff, Nat.reduceBEq, Int.reduceToNat, Int.reduceLT, Int.reduceLE, Int.reduceEq, Nat.reduceLeDiff, Nat.reduceLT, Nat.reduceMul, Nat.reduceAdd, String.reduceEq]
    refine hQ .normal _ ?_; clear hQ Q
    refine TS.seq (TS.seq (TS.of [] fun Q hQ => ?_))
    simp only [go_sem, Nat.reduceEqDiff, Nat.reduceBEq, Int.reduceToNat, Int.reduceLT, Int.reduceLE, Int.reduceEq, Nat.reduceLeDiff, Nat.reduceLT, Nat.reduceMul, Nat.reduceAdd, String.reduceEq]
    refine hQ .normal _ ?_; clear hQ Q
    refine TS.block (TS.loop (α := Nat) (fun k => [(0, slK l), (1, ii n), (6, ii (((L (tk l n).s).take k).foldl digV 0)), (7, ii k)]) (fun _ => m) (fun k => k ≤ (tk l n).s.size) (fun k => (tk l n).s.size - k) 0 (by simp) ⟨by simp [Has, upd_apply, argsT], rfl, by simp⟩ ?_)
    rintro k st hH hm hk
    simp only [Has, List.mem_cons, List.not_mem_nil, or_false, forall_eq_or_imp, forall_eq] at hH; obtain ⟨i0, i1, i6, i7⟩ := hH
    by_cases hkl : k < (tk l n).s.size
    · obtain ⟨b, hb⟩ : ∃ b, (L (tk l n).s)[k]? = some b := ⟨_, List.getElem?_eq_getElem (by rw [L_len]; exact hkl)⟩
      have hb' : (tk l n).s[k]? = some b := by rw [L_at]; exact hb
      have hw2 := wrap_succ hkl (by omega)
      refine TS.of [] fun Q hQ => ?_
      simp only [go_sem, Nat.reduceEqDiff, Nat.reduceBEq, Int.reduceToNat, Int.reduceLT, Int.reduceLE, Int.reduceEq, Nat.reduceLeDiff, Nat.reduceLT, Nat.reduceMul, Nat.reduceAdd, String.reduceEq, i0, i1, i6, i7, hm, h0', hlt, hat, hl3, hkl, hb', hw2]
      refine hQ .normal _ ?_; clear hQ Q
      refine ⟨_, _, k + 1, DropW.refl m, ?_, by omega, by omega⟩
      have e : ((L (tk l n).s).take (k + 1)).foldl digV 0 = digV (((L (tk l n).s).take k).foldl digV 0) b := by rw [List.take_add_one, hb, List.foldl_append]; rfl
      simp only [e, digV, upd_apply]
      simp [i0, i1, IV.np, SK.np, npK]
    · refine TS.of [] fun Q hQ => ?_
      simp only [go_sem, Nat.reduceEqDiff, Nat.reduceBEq, Int.reduceToNat, Int.reduceLT, Int.reduceLE, Int.reduceEq, Nat.reduceLeDiff, Nat.reduceLT, Nat.reduceMul, Nat.reduceAdd, String.reduceEq, i0, i1, i6, i7, hm, h0', hlt, hat, hl3, hkl]
      refine hQ (.exit 0) _ ?_; clear hQ Q
      refine TS.of [] fun Q hQ => ?_
      simp only [go_sem, Nat.reduceEqDiff, Nat.reduceBEq, Int.reduceToNat, Int.reduceLT, Int.reduceLE, Int.reduceEq, Nat.reduceLeDiff, Nat.reduceLT, Nat.reduceMul, Nat.reduceAdd, String.reduceEq, i0, i1, i6, i7, hm, hw]
      refine hQ .ret _ ?_; exact post_ret _ _ _ rfl rfl (DropW.refl _) ⟨by rw [List.take_of_length_le (by rw [L_len]; omega)]; simp only [numP, h0, h4, if_false, ne_eq, not_true_eq_false]; rfl, rfl⟩
  · refine TS.seq (TS.of [] fun Q hQ => ?_)
    simp only [go_sem, Nat.reduceEqDiff, Nat.reduceBEq, Int.reduceToNat, Int.reduceLT, Int.reduceLE, Int.reduceEq, Nat.reduceLeDiff, Nat.reduceLT, Nat.reduceMul, Nat.reduceAdd, String.reduceEq, h0, h0', hlt, hat, hl3, h4]
    refine cal_eq (bad_sim m n (by omega)) ?_
    simp only [go_sem, Nat.reduceEqDiff, Nat.reduceBEq, Int.reduceToNat, Int.reduceLT, Int.reduceLE, Int.reduceEq, Nat.reduceLeDiff, Nat.reduceLT, Nat.reduceMul, Nat.reduceAdd, String.reduceEq]
    refine hQ .ret _ ?_; exact post_ret _ _ _ rfl rfl (DropW.refl _) ⟨by simp only [numP, h0, h4, if_false, ne_eq, not_false_eq_true, if_true]; rfl, rfl⟩
end Go.Proofs.Ytphjldhdnmoolaa.A
/- The walks of some functions over the abstract machine. -/
namespace Go.Proofs.Ytphjldhdnmoolaa.A
open Go
theorem Expr.k_mk {k n s a p} : (Expr.mk k n s a p).k = k := rfl
theorem Expr.n_mk {k n s a p} : (Expr.mk k n s a p).n = n := rfl
theorem Expr.s_mk {k n s a p} : (Expr.mk k n s a p).s = s := rfl
theorem Expr.a_mk {k n s a p} : (Expr.mk k n s a p).a = a := rfl
theorem Expr.p_mk {k n s a p} : (Expr.mk k n s a p).p = p := rfl
def enough (l : List Tok) (p : Int) (cn c f : Nat) : Prop := (p < 0 → cn ≤ f) ∧ (0 ≤ p → 4 * ((l.length : Int) - p) + c ≤ f)
def ES (l : List Tok) (f : Nat) : Prop := ∀ (m : Mem) (p least depth : Int), okA l p → enough l p 2 4 f → 0 ≤ depth → depth + f ≤ 5000000 → 0 ≤ least → least ≤ 100 → Sim 75 [slK l, ii p, ii least, ii depth] m (fun r m' => r = .tup [.agg (encE (exprF l f p least depth).1), ii (exprF l f p least depth).2] ∧ m' = m)
def SS (l : List Tok) (f : Nat) : Prop := ∀ (m : Mem) (p depth : Int), okA l p → enough l p 1 3 f → 0 ≤ depth → depth + f ≤ 5000000 → Sim 90 [slK l, ii p, ii depth] m (fun r m' => r = .tup [.agg (encE (smallF l f p depth).1), ii (smallF l f p depth).2] ∧ m' = m)
def AS (l : List Tok) (f : Nat) : Prop := ∀ (m : Mem) (p depth : Int) (a b : Bytes), okA l p → enough l p 3 2 f → 0 ≤ depth → depth + f ≤ 5000000 → Sim 101 [slK l, ii p, ii depth, ss a, ss b] m (fun r m' => r = .tup [.agg (encE (aroundF l f p depth a b).1), ii (aroundF l f p depth a b).2] ∧ m' = m)
theorem encE_all (e : Expr) : (encE e).all IV.one = true := by rw [encE_eq]; rfl
theorem encE_sh (e : Expr) : (encE e).map IV.sh = encE e := by rw [encE_eq]; rfl
theorem encE_len (e : Expr) : (encE e).length = 5 := by rw [encE_eq]; rfl
set_option maxRecDepth 100000 in
set_option maxHeartbeats 4000000 in
theorem around_step {l : List Tok} (T : Toks l) {f : Nat} (ih : ES l f) : AS l (f + 1) := by
  intro m p depth a b ho hen hd0 hd1
  have hp := ho
  obtain ⟨h1, h2⟩ := ho
  have hl := T.lt
  refine Sim.ofS 41 [.cell 10 99, .tmp 11] Try.func101 rfl rfl rfl (by simp) fun wr => ?_
  simp only [go_sem, Nat.reduceEqDiff, Nat.reduceBEq, Int.reduceToNat, Int.reduceLT, Int.reduceLE, Int.reduceEq, Nat.reduceLeDiff, Nat.reduceLT, Nat.reduceMul, Nat.reduceAdd, String.reduceEq]
  by_cases hc : (decide (12 ≤ depth) && isP l p a) = true
  · simp only [Bool.and_eq_true, decide_eq_true_eq] at hc
    refine TS.of [] fun Q hQ => ?_
    simp only [go_sem, Nat.reduceEqDiff, Nat.reduceBEq, Int.reduceToNat, Int.reduceLT, Int.reduceLE, Int.reduceEq, Nat.reduceLeDiff, Nat.reduceLT, Nat.reduceMul, Nat.reduceAdd, String.reduceEq, hc]
    refine cal_eq (is_sim _ l p a h2) ?_
    simp only [go_sem, Nat.reduceEqDiff, Nat.reduceBEq, Int.reduceToNat, Int.reduceLT, Int.reduceLE, Int.reduceEq, Nat.reduceLeDiff, Nat.reduceLT, Nat.reduceMul, Nat.reduceAdd, String.reduceEq, hc]
    refine cal_eq (bad_sim _ p (by omega)) ?_
    simp only [go_sem, Nat.reduceEqDiff, Nat.reduceBEq, Int.reduceToNat, Int.reduceLT, Int.reduceLE, Int.reduceEq, Nat.reduceLeDiff, Nat.reduceLT, Nat.reduceMul, Nat.reduceAdd, String.reduceEq]
    refine hQ .ret _ ?_; clear hQ Q; refine post_ret _ _ (.tup [.agg (encE E0), ii (bad p)]) ?_ ?_ (DropW.tail0 _ rfl) ⟨?_, rfl⟩
    · simp only [go_sem, Nat.reduceEqDiff, Nat.reduceBEq, Int.reduceToNat, Int.reduceLT, Int.reduceLE, Int.reduceEq, Nat.reduceLeDiff, Nat.reduceLT, Nat.reduceMul, Nat.reduceAdd, String.reduceEq, encE_eq] <;> rfl
    · simp [IV.np, npL, npE]
    · rw [aroundF, if_pos (by simp [hc])]
  · have hgo : aroundF l (f + 1) p depth a b = ((exprF l f (eatP l p a) 1 (depth + 1)).1, eatP l (exprF l f (eatP l p a) 1 (depth + 1)).2 b) := by rw [aroundF, if_neg hc]
    have he := eatP_adv T (t := a) hp
    have hx := (expr_adv T f).1 (eatP l p a) 1 (depth + 1) he.1
    have hw : IntKind.i64.wrap (depth + 1) = depth + 1 := wrap_small (by omega) (by omega)
    have hsub := fun m => ih m (eatP l p a) 1 (depth + 1) he.1 (by unfold enough adv okA at *; omega) (by omega) (by omega) (by omega) (by omega)
    generalize exprF l f (eatP l p a) 1 (depth + 1) = X at hgo hx hsub
    refine TS.of [] fun Q hQ => ?_
    by_cases hd : 12 ≤ depth
    · have hi : isP l p a = false := by simpa [hd] using hc
      simp only [go_sem, Nat.reduceEqDiff, Nat.reduceBEq, Int.reduceToNat, Int.reduceLT, Int.reduceLE, Int.reduceEq, Nat.reduceLeDiff, Nat.reduceLT, Nat.reduceMul, Nat.reduceAdd, String.reduceEq, hd]
      refine cal_eq (is_sim _ l p a h2) ?_
      simp only [go_sem, Nat.reduceEqDiff, Nat.reduceBEq, Int.reduceToNat, Int.reduceLT, Int.reduceLE, Int.reduceEq, Nat.reduceLeDiff, Nat.reduceLT, Nat.reduceMul, Nat.reduceAdd, String.reduceEq, hi]
      refine cal_eq (eat_sim _ l p a hp hl) ?_
      simp only [go_sem, Nat.reduceEqDiff, Nat.reduceBEq, Int.reduceToNat, Int.reduceLT, Int.reduceLE, Int.reduceEq, Nat.reduceLeDiff, Nat.reduceLT, Nat.reduceMul, Nat.reduceAdd, String.reduceEq, hw]
      refine cal_eq (hsub _) ?_
      simp only [go_sem, Nat.reduceEqDiff, Nat.reduceBEq, Int.reduceToNat, Int.reduceLT, Int.reduceLE, Int.reduceEq, Nat.reduceLeDiff, Nat.reduceLT, Nat.reduceMul, Nat.reduceAdd, String.reduceEq, encE_eq]
      refine drn_of ⟨[], [], []⟩ [0, 0, 0, 0, 14, 31, 63] (by kernel_rfl) ?_
      simp only [go_sem, Nat.reduceEqDiff, Nat.reduceBEq, Int.reduceToNat, Int.reduceLT, Int.reduceLE, Int.reduceEq, Nat.reduceLeDiff, Nat.reduceLT, Nat.reduceMul, Nat.reduceAdd, String.reduceEq, encE_eq]
      refine cald_eq (eat_sim _ l X.2 b hx.1 hl) ?_
      simp only [go_sem, Nat.reduceEqDiff, Nat.reduceBEq, Int.reduceToNat, Int.reduceLT, Int.reduceLE, Int.reduceEq, Nat.reduceLeDiff, Nat.reduceLT, Nat.reduceMul, Nat.reduceAdd, String.reduceEq, encE_eq]
      refine hQ .ret _ ?_; clear hQ Q; refine post_ret _ _ (.tup [.agg (encE X.1), ii (eatP l X.2 b)]) ?_ ?_ (DropW.tail0 _ rfl) ⟨?_, rfl⟩
      · simp only [go_sem, Nat.reduceEqDiff, Nat.reduceBEq, Int.reduceToNat, Int.reduceLT, Int.reduceLE, Int.reduceEq, Nat.reduceLeDiff, Nat.reduceLT, Nat.reduceMul, Nat.reduceAdd, String.reduceEq, encE_eq] <;> rfl
      · simp [IV.np, npL, npE]
      · rw [hgo]
    · simp only [go_sem, Nat.reduceEqDiff, Nat.reduceBEq, Int.reduceToNat, Int.reduceLT, Int.reduceLE, Int.reduceEq, Nat.reduceLeDiff, Nat.reduceLT, Nat.reduceMul, Nat.reduceAdd, String.reduceEq, hd]
      refine cal_eq (eat_sim _ l p a hp hl) ?_
      simp only [go_sem, Nat.reduceEqDiff, Nat.reduceBEq, Int.reduceToNat, Int.reduceLT, Int.reduceLE, Int.reduceEq, Nat.reduceLeDiff, Nat.reduceLT, Nat.reduceMul, Nat.reduceAdd, String.reduceEq, hw]
      refine cal_eq (hsub _) ?_
      simp only [go_sem, Nat.reduceEqDiff, Nat.reduceBEq, Int.reduceToNat, Int.reduceLT, Int.reduceLE, Int.reduceEq, Nat.reduceLeDiff, Nat.reduceLT, Nat.reduceMul, Nat.reduceAdd, String.reduceEq, encE_eq]
      refine drn_of ⟨[], [], []⟩ [0, 0, 0, 0, 14, 31, 63] (by kernel_rfl) ?_
      simp only [go_sem, Nat.reduceEqDiff, Nat.reduceBEq, Int.reduceToNat, Int.reduceLT, Int.reduceLE, Int.reduceEq, Nat.reduceLeDiff, Nat.reduceLT, Nat.reduceMul, Nat.reduceAdd, String.reduceEq, encE_eq]
      refine cald_eq (eat_sim _ l X.2 b hx.1 hl) ?_
      simp only [go_sem, Nat.reduceEqDiff, Nat.reduceBEq, Int.reduceToNat, Int.reduceLT, Int.reduceLE, Int.reduceEq, Nat.reduceLeDiff, Nat.reduceLT, Nat.reduceMul, Nat.reduceAdd, String.reduceEq, encE_eq]
      refine hQ .ret _ ?_; clear hQ Q; refine post_ret _ _ (.tup [.agg (encE X.1), ii (eatP l X.2 b)]) ?_ ?_ (DropW.tail0 _ rfl) ⟨?_, rfl⟩
      · simp only [go_sem, Nat.reduceEqDiff, Nat.reduceBEq, Int.reduceToNat, Int.reduceLT, Int.reduceLE, Int.reduceEq, Nat.reduceLeDiff, Nat.reduceLT, Nat.reduceMul, Nat.reduceAdd, String.reduceEq, encE_eq] <;> rfl
      · simp [IV.np, npL, npE]
      · rw [hgo]
set_option maxRecDepth 100000 in
set_option maxHeartbeats 4000000 in
theorem small_step {l : List Tok} (T : Toks l) (hsz : ∀ p, (tk l p).s.size < 900000) {f : Nat} (ihS : SS l f) (ihA : AS l f) : SS l (f + 1) := by
  intro m p depth ho hen hd0 hd1
  have hp := ho
  obtain ⟨h1, h2⟩ := ho
  have hl := T.lt
  refine Sim.ofS 129 [.cell 6 99, .tmp 7] Try.func90 rfl rfl rfl (by simp) fun wr => ?_
  simp only [go_sem, Nat.reduceEqDiff, Nat.reduceBEq, Int.reduceToNat, Int.reduceLT, Int.reduceLE, Int.reduceEq, Nat.reduceLeDiff, Nat.reduceLT, Nat.reduceMul, Nat.reduceAdd, String.reduceEq]
  by_cases h0 : p < 0
  · have hgo : smallF l (f + 1) p depth = (E0, p) := by rw [smallF, if_pos h0]
    refine TS.of [] fun Q hQ => ?_
    simp only [go_sem, Nat.reduceEqDiff, Nat.reduceBEq, Int.reduceToNat, Int.reduceLT, Int.reduceLE, Int.reduceEq, Nat.reduceLeDiff, Nat.reduceLT, Nat.reduceMul, Nat.reduceAdd, String.reduceEq, h0]
    refine hQ .ret _ ?_; clear hQ Q; refine post_ret _ _ (.tup [.agg (encE E0), ii p]) ?_ ?_ (DropW.tail0 _ rfl) ⟨?_, rfl⟩
    · simp only [go_sem, Nat.reduceEqDiff, Nat.reduceBEq, Int.reduceToNat, Int.reduceLT, Int.reduceLE, Int.reduceEq, Nat.reduceLeDiff, Nat.reduceLT, Nat.reduceMul, Nat.reduceAdd, String.reduceEq, encE_eq] <;> rfl
    · simp [IV.np, npL, npE]
    · rw [hgo]
  obtain ⟨n, rfl⟩ := nat_of (p := p) (by omega)
  have hlt : n < l.length := by omega
  have hat := encK_at (tk_at hlt)
  have hl3 := encK_lt hlt
  have h0' : (0 : Int) ≤ (n : Int) := by omega
  have hw : IntKind.i64.wrap ((n : Int) + 1) = (n : Int) + 1 := wrap_small (by omega) (by omega)
  have hwd : IntKind.i64.wrap (depth + 1) = depth + 1 := wrap_small (by omega) (by omega)
  have hq : ¬ (qNot = qSub) := by decide
  have hsign : ∀ t : Bytes, isP l n t = true → (tk l n).s = t := fun t h => (isP_k T h).2.2
  -- behind ! or -
  have hneg : (isP l n qNot || isP l n qSub) = true → okA l ((n : Int) + 1) ∧ enough l ((n : Int) + 1) 1 3 f := by
    intro h
    have : okA l ((n : Int) + 1) := by
      simp only [Bool.or_eq_true] at h
      rcases h with h | h
      · exact (isP_lt T hp h).2
      · exact (isP_lt T hp h).2
    exact ⟨this, by unfold enough okA at *; omega⟩
  have hA2 : enough l (n : Int) 3 2 f := by unfold enough okA at *; omega
  refine TS.of [] fun Q hQ => ?_
  cases hA : isP l n qNot with
  | true =>
    have hts := hsign _ hA
    by_cases hd : 12 ≤ depth
    · have hgo : smallF l (f + 1) n depth = (.mk 0 0 ByteArray.empty [] (tk l n).p, bad n) := by rw [smallF, if_neg h0, if_pos (by simp [hA]), if_pos hd]
      simp only [go_sem, Nat.reduceEqDiff, Nat.reduceBEq, Int.reduceToNat, Int.reduceLT, Int.reduceLE, Int.reduceEq, Nat.reduceLeDiff, Nat.reduceLT, Nat.reduceMul, Nat.reduceAdd, String.reduceEq, h0, h0', hlt, hat, hl3]
      refine cal_eq (is_sim _ l n qNot h2) ?_
      simp only [go_sem, Nat.reduceEqDiff, Nat.reduceBEq, Int.reduceToNat, Int.reduceLT, Int.reduceLE, Int.reduceEq, Nat.reduceLeDiff, Nat.reduceLT, Nat.reduceMul, Nat.reduceAdd, String.reduceEq, hA, hd]
      refine drn_of ⟨[], [], []⟩ [0, 0, 2, 7, 15] (by kernel_rfl) ?_
      simp only [go_sem, Nat.reduceEqDiff, Nat.reduceBEq, Int.reduceToNat, Int.reduceLT, Int.reduceLE, Int.reduceEq, Nat.reduceLeDiff, Nat.reduceLT, Nat.reduceMul, Nat.reduceAdd, String.reduceEq]
      refine cald_eq (bad_sim _ n (by omega)) ?_
      simp only [go_sem, Nat.reduceEqDiff, Nat.reduceBEq, Int.reduceToNat, Int.reduceLT, Int.reduceLE, Int.reduceEq, Nat.reduceLeDiff, Nat.reduceLT, Nat.reduceMul, Nat.reduceAdd, String.reduceEq]
      refine hQ .ret _ ?_; clear hQ Q; refine post_ret _ _ (.tup [.agg (encE (.mk 0 0 ByteArray.empty [] (tk l n).p)), ii (bad n)]) ?_ ?_ (DropW.tail0 _ rfl) ⟨?_, rfl⟩
      · simp only [go_sem, Nat.reduceEqDiff, Nat.reduceBEq, Int.reduceToNat, Int.reduceLT, Int.reduceLE, Int.reduceEq, Nat.reduceLeDiff, Nat.reduceLT, Nat.reduceMul, Nat.reduceAdd, String.reduceEq, encE_eq, Expr.k_mk, Expr.n_mk, Expr.s_mk, Expr.a_mk, Expr.p_mk, encEs, slE] <;> rfl
      · simp [IV.np, npL, npE]
      · rw [hgo]
    · have hgo : smallF l (f + 1) n depth = (.mk 4 0 ByteArray.empty [(smallF l f (n + 1) (depth + 1)).1] (tk l n).p, (smallF l f (n + 1) (depth + 1)).2) := by rw [smallF, if_neg h0, if_pos (by simp [hA]), if_neg hd, if_neg (by rw [hts]; exact hq)]
      have hsub := fun m => ihS m (n + 1) (depth + 1) (hneg (by simp [hA])).1 (hneg (by simp [hA])).2 (by omega) (by omega)
      generalize smallF l f (n + 1) (depth + 1) = X at hgo hsub
      simp only [go_sem, Nat.reduceEqDiff, Nat.reduceBEq, Int.reduceToNat, Int.reduceLT, Int.reduceLE, Int.reduceEq, Nat.reduceLeDiff, Nat.reduceLT, Nat.reduceMul, Nat.reduceAdd, String.reduceEq, h0, h0', hlt, hat, hl3]
      refine cal_eq (is_sim _ l n qNot h2) ?_
      simp only [go_sem, Nat.reduceEqDiff, Nat.reduceBEq, Int.reduceToNat, Int.reduceLT, Int.reduceLE, Int.reduceEq, Nat.reduceLeDiff, Nat.reduceLT, Nat.reduceMul, Nat.reduceAdd, String.reduceEq, hA, hd, show (tk l n).s = ⟨#[33]⟩ from hts, hw, hwd, show ¬ ((⟨#[33]⟩ : ByteArray) = ⟨#[45]⟩) from hq]
      refine cal_eq (hsub _) ?_
      simp only [go_sem, Nat.reduceEqDiff, Nat.reduceBEq, Int.reduceToNat, Int.reduceLT, Int.reduceLE, Int.reduceEq, Nat.reduceLeDiff, Nat.reduceLT, Nat.reduceMul, Nat.reduceAdd, String.reduceEq, encE_eq]
      refine hQ .ret _ ?_; clear hQ Q; refine post_ret _ _ (.tup [.agg (encE (.mk 4 0 ByteArray.empty [X.1] (tk l n).p)), ii X.2]) ?_ ?_ (DropW.tail0 _ rfl) ⟨?_, rfl⟩
      · simp only [go_sem, Nat.reduceEqDiff, Nat.reduceBEq, Int.reduceToNat, Int.reduceLT, Int.reduceLE, Int.reduceEq, Nat.reduceLeDiff, Nat.reduceLT, Nat.reduceMul, Nat.reduceAdd, String.reduceEq, encE_eq, Expr.k_mk, Expr.n_mk, Expr.s_mk, Expr.a_mk, Expr.p_mk, encEs, slE] <;> rfl
      · simp [IV.np, npL, npE]
      · rw [hgo]
  | false =>
    simp only [go_sem, Nat.reduceEqDiff, Nat.reduceBEq, Int.reduceToNat, Int.reduceLT, Int.reduceLE, Int.reduceEq, Nat.reduceLeDiff, Nat.reduceLT, Nat.reduceMul, Nat.reduceAdd, String.reduceEq, h0, h0', hlt, hat, hl3]
    refine cal_eq (is_sim _ l n qNot h2) ?_
    simp only [go_sem, Nat.reduceEqDiff, Nat.reduceBEq, Int.reduceToNat, Int.reduceLT, Int.reduceLE, Int.reduceEq, Nat.reduceLeDiff, Nat.reduceLT, Nat.reduceMul, Nat.reduceAdd, String.reduceEq, hA]
    refine cal_eq (is_sim _ l n qSub h2) ?_
    cases hB : isP l n qSub with
    | true =>
      have hts := hsign _ hB
      by_cases hd : 12 ≤ depth
      · have hgo : smallF l (f + 1) n depth = (.mk 0 0 ByteArray.empty [] (tk l n).p, bad n) := by rw [smallF, if_neg h0, if_pos (by simp [hB]), if_pos hd]
        simp only [go_sem, Nat.reduceEqDiff, Nat.reduceBEq, Int.reduceToNat, Int.reduceLT, Int.reduceLE, Int.reduceEq, Nat.reduceLeDiff, Nat.reduceLT, Nat.reduceMul, Nat.reduceAdd, String.reduceEq, hd]
        refine drn_of ⟨[], [], []⟩ [0, 0, 2, 7, 15] (by kernel_rfl) ?_
        simp only [go_sem, Nat.reduceEqDiff, Nat.reduceBEq, Int.reduceToNat, Int.reduceLT, Int.reduceLE, Int.reduceEq, Nat.reduceLeDiff, Nat.reduceLT, Nat.reduceMul, Nat.reduceAdd, String.reduceEq]
        refine cald_eq (bad_sim _ n (by omega)) ?_
        simp only [go_sem, Nat.reduceEqDiff, Nat.reduceBEq, Int.reduceToNat, Int.reduceLT, Int.reduceLE, Int.reduceEq, Nat.reduceLeDiff, Nat.reduceLT, Nat.reduceMul, Nat.reduceAdd, String.reduceEq]
        refine hQ .ret _ ?_; clear hQ Q; refine post_ret _ _ (.tup [.agg (encE (.mk 0 0 ByteArray.empty [] (tk l n).p)), ii (bad n)]) ?_ ?_ (DropW.tail0 _ rfl) ⟨?_, rfl⟩
        · simp only [go_sem, Nat.reduceEqDiff, Nat.reduceBEq, Int.reduceToNat, Int.reduceLT, Int.reduceLE, Int.reduceEq, Nat.reduceLeDiff, Nat.reduceLT, Nat.reduceMul, Nat.reduceAdd, String.reduceEq, encE_eq, Expr.k_mk, Expr.n_mk, Expr.s_mk, Expr.a_mk, Expr.p_mk, encEs, slE] <;> rfl
        · simp [IV.np, npL, npE]
        · rw [hgo]
      · have hgo : smallF l (f + 1) n depth = (.mk 5 0 ByteArray.empty [(smallF l f (n + 1) (depth + 1)).1] (tk l n).p, (smallF l f (n + 1) (depth + 1)).2) := by rw [smallF, if_neg h0, if_pos (by simp [hB]), if_neg hd, if_pos hts]
        have hsub := fun m => ihS m (n + 1) (depth + 1) (hneg (by simp [hB])).1 (hneg (by simp [hB])).2 (by omega) (by omega)
        generalize smallF l f (n + 1) (depth + 1) = X at hgo hsub
        simp only [go_sem, Nat.reduceEqDiff, Nat.reduceBEq, Int.reduceToNat, Int.reduceLT, Int.reduceLE, Int.reduceEq, Nat.reduceLeDiff, Nat.reduceLT, Nat.reduceMul, Nat.reduceAdd, String.reduceEq, hd, show (tk l n).s = ⟨#[45]⟩ from hts, hw, hwd]
        refine cal_eq (hsub _) ?_
        simp only [go_sem, Nat.reduceEqDiff, Nat.reduceBEq, Int.reduceToNat, Int.reduceLT, Int.reduceLE, Int.reduceEq, Nat.reduceLeDiff, Nat.reduceLT, Nat.reduceMul, Nat.reduceAdd, String.reduceEq, encE_eq]
        refine hQ .ret _ ?_; clear hQ Q; refine post_ret _ _ (.tup [.agg (encE (.mk 5 0 ByteArray.empty [X.1] (tk l n).p)), ii X.2]) ?_ ?_ (DropW.tail0 _ rfl) ⟨?_, rfl⟩
        · simp only [go_sem, Nat.reduceEqDiff, Nat.reduceBEq, Int.reduceToNat, Int.reduceLT, Int.reduceLE, Int.reduceEq, Nat.reduceLeDiff, Nat.reduceLT, Nat.reduceMul, Nat.reduceAdd, String.reduceEq, encE_eq, Expr.k_mk, Expr.n_mk, Expr.s_mk, Expr.a_mk, Expr.p_mk, encEs, slE] <;> rfl
        · simp [IV.np, npL, npE]
        · rw [hgo]
    | false =>
      simp only [go_sem, Nat.reduceEqDiff, Nat.reduceBEq, Int.reduceToNat, Int.reduceLT, Int.reduceLE, Int.reduceEq, Nat.reduceLeDiff, Nat.reduceLT, Nat.reduceMul, Nat.reduceAdd, String.reduceEq]
      refine cal_eq (is_sim _ l n qLB h2) ?_
      cases hC : isP l n qLB with
      | true =>
        have hgo : smallF l (f + 1) n depth = (.mk 3 0 ByteArray.empty [(aroundF l f n depth qLB qRB).1] (tk l n).p, (aroundF l f n depth qLB qRB).2) := by rw [smallF, if_neg h0, if_neg (by simp [hA, hB]), if_pos hC]
        have hsub := fun m => ihA m n depth qLB qRB hp hA2 (by omega) (by omega)
        generalize aroundF l f n depth qLB qRB = X at hgo hsub
        simp only [go_sem, Nat.reduceEqDiff, Nat.reduceBEq, Int.reduceToNat, Int.reduceLT, Int.reduceLE, Int.reduceEq, Nat.reduceLeDiff, Nat.reduceLT, Nat.reduceMul, Nat.reduceAdd, String.reduceEq]
        refine cal_eq (hsub _) ?_
        simp only [go_sem, Nat.reduceEqDiff, Nat.reduceBEq, Int.reduceToNat, Int.reduceLT, Int.reduceLE, Int.reduceEq, Nat.reduceLeDiff, Nat.reduceLT, Nat.reduceMul, Nat.reduceAdd, String.reduceEq, encE_eq]
        refine hQ .ret _ ?_; clear hQ Q; refine post_ret _ _ (.tup [.agg (encE (.mk 3 0 ByteArray.empty [X.1] (tk l n).p)), ii X.2]) ?_ ?_ (DropW.tail0 _ rfl) ⟨?_, rfl⟩
        · simp only [go_sem, Nat.reduceEqDiff, Nat.reduceBEq, Int.reduceToNat, Int.reduceLT, Int.reduceLE, Int.reduceEq, Nat.reduceLeDiff, Nat.reduceLT, Nat.reduceMul, Nat.reduceAdd, String.reduceEq, encE_eq, Expr.k_mk, Expr.n_mk, Expr.s_mk, Expr.a_mk, Expr.p_mk, encEs, slE] <;> rfl
        · simp [IV.np, npL, npE]
        · rw [hgo]
      | false =>
        simp only [go_sem, Nat.reduceEqDiff, Nat.reduceBEq, Int.reduceToNat, Int.reduceLT, Int.reduceLE, Int.reduceEq, Nat.reduceLeDiff, Nat.reduceLT, Nat.reduceMul, Nat.reduceAdd, String.reduceEq]
        refine cal_eq (is_sim _ l n qLP h2) ?_
        cases hD : isP l n qLP with
        | true =>
          have hgo : smallF l (f + 1) n depth = aroundF l f n depth qLP qRP := by rw [smallF, if_neg h0, if_neg (by simp [hA, hB]), if_neg (by simp [hC]), if_pos hD]
          have hsub := fun m => ihA m n depth qLP qRP hp hA2 (by omega) (by omega)
          generalize aroundF l f n depth qLP qRP = X at hgo hsub
          simp only [go_sem, Nat.reduceEqDiff, Nat.reduceBEq, Int.reduceToNat, Int.reduceLT, Int.reduceLE, Int.reduceEq, Nat.reduceLeDiff, Nat.reduceLT, Nat.reduceMul, Nat.reduceAdd, String.reduceEq]
          refine cal_eq (hsub _) ?_
          simp only [go_sem, Nat.reduceEqDiff, Nat.reduceBEq, Int.reduceToNat, Int.reduceLT, Int.reduceLE, Int.reduceEq, Nat.reduceLeDiff, Nat.reduceLT, Nat.reduceMul, Nat.reduceAdd, String.reduceEq, encE_eq]
          refine hQ .ret _ ?_; clear hQ Q; refine post_ret _ _ (.tup [.agg (encE X.1), ii X.2]) ?_ ?_ (DropW.tail0 _ rfl) ⟨?_, rfl⟩
          · simp only [go_sem, Nat.reduceEqDiff, Nat.reduceBEq, Int.reduceToNat, Int.reduceLT, Int.reduceLE, Int.reduceEq, Nat.reduceLeDiff, Nat.reduceLT, Nat.reduceMul, Nat.reduceAdd, String.reduceEq, encE_eq, Expr.k_mk, Expr.n_mk, Expr.s_mk, Expr.a_mk, Expr.p_mk, encEs, slE] <;> rfl
          · simp [IV.np, npL, npE]
          · rw [hgo]
        | false =>
          by_cases hk : (tk l n).k = 2
          · have hgo : smallF l (f + 1) n depth = (.mk 1 (numP l n).1 ByteArray.empty [] (tk l n).p, (numP l n).2) := by rw [smallF, if_neg h0, if_neg (by simp [hA, hB]), if_neg (by simp [hC]), if_neg (by simp [hD]), if_pos hk]
            simp only [go_sem, Nat.reduceEqDiff, Nat.reduceBEq, Int.reduceToNat, Int.reduceLT, Int.reduceLE, Int.reduceEq, Nat.reduceLeDiff, Nat.reduceLT, Nat.reduceMul, Nat.reduceAdd, String.reduceEq, hk]
            refine cal_eq (numP_sim _ l n hp hl (hsz n)) ?_
            simp only [go_sem, Nat.reduceEqDiff, Nat.reduceBEq, Int.reduceToNat, Int.reduceLT, Int.reduceLE, Int.reduceEq, Nat.reduceLeDiff, Nat.reduceLT, Nat.reduceMul, Nat.reduceAdd, String.reduceEq, encE_eq]
            refine hQ .ret _ ?_; clear hQ Q; refine post_ret _ _ (.tup [.agg (encE (.mk 1 (numP l n).1 ByteArray.empty [] (tk l n).p)), ii (numP l n).2]) ?_ ?_ (DropW.tail0 _ rfl) ⟨?_, rfl⟩
            · simp only [go_sem, Nat.reduceEqDiff, Nat.reduceBEq, Int.reduceToNat, Int.reduceLT, Int.reduceLE, Int.reduceEq, Nat.reduceLeDiff, Nat.reduceLT, Nat.reduceMul, Nat.reduceAdd, String.reduceEq, encE_eq, Expr.k_mk, Expr.n_mk, Expr.s_mk, Expr.a_mk, Expr.p_mk, encEs, slE] <;> rfl
            · simp [IV.np, npL, npE]
            · rw [hgo]
          · simp only [go_sem, Nat.reduceEqDiff, Nat.reduceBEq, Int.reduceToNat, Int.reduceLT, Int.reduceLE, Int.reduceEq, Nat.reduceLeDiff, Nat.reduceLT, Nat.reduceMul, Nat.reduceAdd, String.reduceEq, hk]
            refine cal_eq (is_sim _ l n qTrue h2) ?_
            cases hE : isP l n qTrue with
            | true =>
              have hgo : smallF l (f + 1) n depth = (.mk 2 0 (tk l n).s [] (tk l n).p, (n : Int) + 1) := by rw [smallF, if_neg h0, if_neg (by simp [hA, hB]), if_neg (by simp [hC]), if_neg (by simp [hD]), if_neg hk, if_pos (by simp [hE])]
              simp only [go_sem, Nat.reduceEqDiff, Nat.reduceBEq, Int.reduceToNat, Int.reduceLT, Int.reduceLE, Int.reduceEq, Nat.reduceLeDiff, Nat.reduceLT, Nat.reduceMul, Nat.reduceAdd, String.reduceEq, hw]
              refine hQ .ret _ ?_; clear hQ Q; refine post_ret _ _ (.tup [.agg (encE (.mk 2 0 (tk l n).s [] (tk l n).p)), ii ((n : Int) + 1)]) ?_ ?_ (DropW.tail0 _ rfl) ⟨?_, rfl⟩
              · simp only [go_sem, Nat.reduceEqDiff, Nat.reduceBEq, Int.reduceToNat, Int.reduceLT, Int.reduceLE, Int.reduceEq, Nat.reduceLeDiff, Nat.reduceLT, Nat.reduceMul, Nat.reduceAdd, String.reduceEq, encE_eq, Expr.k_mk, Expr.n_mk, Expr.s_mk, Expr.a_mk, Expr.p_mk, encEs, slE] <;> rfl
              · simp [IV.np, npL, npE]
              · rw [hgo]
            | false =>
              simp only [go_sem, Nat.reduceEqDiff, Nat.reduceBEq, Int.reduceToNat, Int.reduceLT, Int.reduceLE, Int.reduceEq, Nat.reduceLeDiff, Nat.reduceLT, Nat.reduceMul, Nat.reduceAdd, String.reduceEq]
              refine cal_eq (is_sim _ l n qFalse h2) ?_
              cases hF : isP l n qFalse with
              | true =>
                have hgo : smallF l (f + 1) n depth = (.mk 2 0 (tk l n).s [] (tk l n).p, (n : Int) + 1) := by rw [smallF, if_neg h0, if_neg (by simp [hA, hB]), if_neg (by simp [hC]), if_neg (by simp [hD]), if_neg hk, if_pos (by simp [hF])]
                simp only [go_sem, Nat.reduceEqDiff, Nat.reduceBEq, Int.reduceToNat, Int.reduceLT, Int.reduceLE, Int.reduceEq, Nat.reduceLeDiff, Nat.reduceLT, Nat.reduceMul, Nat.reduceAdd, String.reduceEq, hw]
                refine hQ .ret _ ?_; clear hQ Q; refine post_ret _ _ (.tup [.agg (encE (.mk 2 0 (tk l n).s [] (tk l n).p)), ii ((n : Int) + 1)]) ?_ ?_ (DropW.tail0 _ rfl) ⟨?_, rfl⟩
                · simp only [go_sem, Nat.reduceEqDiff, Nat.reduceBEq, Int.reduceToNat, Int.reduceLT, Int.reduceLE, Int.reduceEq, Nat.reduceLeDiff, Nat.reduceLT, Nat.reduceMul, Nat.reduceAdd, String.reduceEq, encE_eq, Expr.k_mk, Expr.n_mk, Expr.s_mk, Expr.a_mk, Expr.p_mk, encEs, slE] <;> rfl
                · simp [IV.np, npL, npE]
                · rw [hgo]
              | false =>
                have hgo : smallF l (f + 1) n depth = (.mk 2 0 (wordP l n).1 [] (tk l n).p, (wordP l n).2) := by rw [smallF, if_neg h0, if_neg (by simp [hA, hB]), if_neg (by simp [hC]), if_neg (by simp [hD]), if_neg hk, if_neg (by simp [hE, hF])]
                simp only [go_sem, Nat.reduceEqDiff, Nat.reduceBEq, Int.reduceToNat, Int.reduceLT, Int.reduceLE, Int.reduceEq, Nat.reduceLeDiff, Nat.reduceLT, Nat.reduceMul, Nat.reduceAdd, String.reduceEq]
                refine cal_eq (wordP_sim _ l n hp hl) ?_
                simp only [go_sem, Nat.reduceEqDiff, Nat.reduceBEq, Int.reduceToNat, Int.reduceLT, Int.reduceLE, Int.reduceEq, Nat.reduceLeDiff, Nat.reduceLT, Nat.reduceMul, Nat.reduceAdd, String.reduceEq]
                refine hQ .ret _ ?_; clear hQ Q; refine post_ret _ _ (.tup [.agg (encE (.mk 2 0 (wordP l n).1 [] (tk l n).p)), ii (wordP l n).2]) ?_ ?_ (DropW.tail0 _ rfl) ⟨?_, rfl⟩
                · simp only [go_sem, Nat.reduceEqDiff, Nat.reduceBEq, Int.reduceToNat, Int.reduceLT, Int.reduceLE, Int.reduceEq, Nat.reduceLeDiff, Nat.reduceLT, Nat.reduceMul, Nat.reduceAdd, String.reduceEq, encE_eq, Expr.k_mk, Expr.n_mk, Expr.s_mk, Expr.a_mk, Expr.p_mk, encEs, slE] <;> rfl
                · simp [IV.np, npL, npE]
                · rw [hgo]
end Go.Proofs.Ytphjldhdnmoolaa.A
/- The walks of some functions over the abstract machine. -/
namespace Go.Proofs.Ytphjldhdnmoolaa.A
open Go
theorem level_le (s : Bytes) : 0 ≤ level s ∧ level s ≤ 5 := by
  unfold level
  split
  · omega
  · split
    · omega
    · split
      · omega
      · split
        · omega
        · split <;> omega
abbrev zE : List IV := [ii 0, ii 0, ss ByteArray.empty, .sl .full 0 [], ii 0]
set_option maxRecDepth 100000 in
set_option maxHeartbeats 4000000 in
theorem expr_step {l : List Tok} (T : Toks l) {f : Nat} (ihS : SS l f) (ihE : ∀ g, g ≤ f → ES l g) : ES l (f + 1) := by
  intro m p least depth ho hen hd0 hd1 hl0 hl1
  have hp := ho
  obtain ⟨h1, h2⟩ := ho
  have hl := T.lt
  refine Sim.ofS 81 [.cell 8 99, .tmp 9] Try.func75 rfl rfl rfl (by simp) fun wr => ?_
  simp only [go_sem, Nat.reduceEqDiff, Nat.reduceBEq, Int.reduceToNat, Int.reduceLT, Int.reduceLE, Int.reduceEq, Nat.reduceLeDiff, Nat.reduceLT, Nat.reduceMul, Nat.reduceAdd, String.reduceEq]
  have hgo : exprF l (f + 1) p least depth = loopF l f (smallF l f p depth).1 (smallF l f p depth).2 5 least depth := by rw [exprF]
  have hs1 := (expr_adv T f).2.2.1 p depth hp
  have hsub := fun m => ihS m p depth hp (by unfold enough okA at *; omega) (by omega) (by omega)
  generalize smallF l f p depth = X at hgo hsub hs1
  rw [hgo]
  generalize htgt : loopF l f X.1 X.2 5 least depth = tgt
  refine TS.seq (TS.of [] fun Q hQ => ?_)
  simp only [go_sem, Nat.reduceEqDiff, Nat.reduceBEq, Int.reduceToNat, Int.reduceLT, Int.reduceLE, Int.reduceEq, Nat.reduceLeDiff, Nat.reduceLT, Nat.reduceMul, Nat.reduceAdd, String.reduceEq]
  refine hQ .normal _ ?_; clear hQ Q
  refine TS.seq (TS.of [] fun Q hQ => ?_)
  simp only [go_sem, Nat.reduceEqDiff, Nat.reduceBEq, Int.reduceToNat, Int.reduceLT, Int.reduceLE, Int.reduceEq, Nat.reduceLeDiff, Nat.reduceLT, Nat.reduceMul, Nat.reduceAdd, String.reduceEq]
  refine cal_eq (hsub _) ?_
  simp only [go_sem, Nat.reduceEqDiff, Nat.reduceBEq, Int.reduceToNat, Int.reduceLT, Int.reduceLE, Int.reduceEq, Nat.reduceLeDiff, Nat.reduceLT, Nat.reduceMul, Nat.reduceAdd, String.reduceEq, encE_eq]
  refine hQ .normal _ ?_; clear hQ Q
  refine TS.seq (TS.of [] fun Q hQ => ?_)
  simp only [go_sem, Nat.reduceEqDiff, Nat.reduceBEq, Int.reduceToNat, Int.reduceLT, Int.reduceLE, Int.reduceEq, Nat.reduceLeDiff, Nat.reduceLT, Nat.reduceMul, Nat.reduceAdd, String.reduceEq]
  refine hQ .normal _ ?_; clear hQ Q
  refine TS.seq (TS.block (TS.loop (α := Nat × Expr × Int × Int) (fun x => [(0, slK l), (1, ii x.2.2.1), (2, ii least), (3, ii depth), (8, .ptr m.objs.length 0), (10, .ptr (m.objs.length + 1) 0), (11, ii x.2.2.2)]) (fun x => ⟨m.objs ++ [.cells zE, .cells (encE x.2.1)], m.rows⟩) (fun x => x.1 ≤ f ∧ okA l x.2.2.1 ∧ ((x.2.2.1 < 0 → 1 ≤ x.1) ∧ (0 ≤ x.2.2.1 → 4 * ((l.length : Int) - x.2.2.1) + 1 ≤ x.1)) ∧ loopF l x.1 x.2.1 x.2.2.1 x.2.2.2 least depth = tgt) (fun x => x.1) (f, X.1, X.2, 5) (by simp) ⟨by simp [Has, upd_apply, argsT], by simp [encE_eq], ⟨Nat.le_refl _, hs1.1, by dsimp only; unfold enough adv okA at *; omega, htgt⟩⟩ ?_))
  clear hsub htgt hs1
  rintro ⟨g, left, q, most⟩ st hH hm ⟨hgf, hq, hge, hc⟩
  dsimp only at hH hm hgf hq hge hc
  rw [encE_eq] at hm
  simp only [Has, List.mem_cons, List.not_mem_nil, or_false, forall_eq_or_imp, forall_eq] at hH; obtain ⟨i0, i1, i2, i3, i8, i10, i11⟩ := hH
  obtain ⟨g, rfl⟩ : ∃ j, g = j + 1 := ⟨g - 1, by unfold okA at hq; omega⟩
  obtain ⟨hq1, hq2⟩ := id hq
  by_cases hq0 : q < 0
  · rw [loopF, if_neg (by omega)] at hc
    have hq0' : ¬ (0 : Int) ≤ q := by omega
    refine TS.of [] fun Q hQ => ?_
    simp only [go_sem, Nat.reduceEqDiff, Nat.reduceBEq, Int.reduceToNat, Int.reduceLT, Int.reduceLE, Int.reduceEq, Nat.reduceLeDiff, Nat.reduceLT, Nat.reduceMul, Nat.reduceAdd, String.reduceEq, i0, i1, i2, i3, i8, i10, i11, hm, hq0']
    refine hQ (.exit 0) _ ?_; clear hQ Q
    refine TS.of [] fun Q hQ => ?_
    simp only [go_sem, Nat.reduceEqDiff, Nat.reduceBEq, Int.reduceToNat, Int.reduceLT, Int.reduceLE, Int.reduceEq, Nat.reduceLeDiff, Nat.reduceLT, Nat.reduceMul, Nat.reduceAdd, String.reduceEq, i0, i1, i2, i3, i8, i10, i11, hm]
    refine hQ .ret _ ?_; clear hQ Q; refine post_ret _ _ (.tup [.agg (encE left), ii q]) ?_ ?_ (DropW.tail0 _ rfl) ⟨?_, rfl⟩
    · simp only [go_sem, Nat.reduceEqDiff, Nat.reduceBEq, Int.reduceToNat, Int.reduceLT, Int.reduceLE, Int.reduceEq, Nat.reduceLeDiff, Nat.reduceLT, Nat.reduceMul, Nat.reduceAdd, String.reduceEq, i8, encE_eq] <;> rfl
    · simp [IV.np, npL, npE]
    · rw [← hc]
  obtain ⟨n, rfl⟩ := nat_of (p := q) (by omega)
  have hlt : n < l.length := by omega
  have hat := encK_at (tk_at hlt)
  have hl3 := encK_lt hlt
  have h0' : (0 : Int) ≤ (n : Int) := by omega
  have hw : IntKind.i64.wrap ((n : Int) + 1) = (n : Int) + 1 := wrap_small (by omega) (by omega)
  by_cases hk : (tk l n).k = 3
  · rw [loopF, if_pos ⟨h0', hk⟩] at hc
    have hlv := level_le (tk l n).s
    by_cases hv : level (tk l n).s < least ∨ most < level (tk l n).s ∨ level (tk l n).s = 0
    · rw [if_pos hv] at hc
      refine TS.of [] fun Q hQ => ?_
      simp only [go_sem, Nat.reduceEqDiff, Nat.reduceBEq, Int.reduceToNat, Int.reduceLT, Int.reduceLE, Int.reduceEq, Nat.reduceLeDiff, Nat.reduceLT, Nat.reduceMul, Nat.reduceAdd, String.reduceEq, i0, i1, i2, i3, i8, i10, i11, hm, h0', hlt, hat, hl3, hk]
      refine cal_eq (level_sim _ _) ?_
      generalize level (tk l n).s = v at hv hlv ⊢
      have hv' : (decide (v < least) || (decide (most < v) || decide (v = 0))) = true := by simpa using hv
      rcases e1 : decide (v < least) with _ | _ <;> rcases e2 : decide (most < v) with _ | _ <;> rcases e3 : decide (v = 0) with _ | _ <;> first | (exfalso; rw [e1, e2, e3] at hv'; cases hv'; done) | skip
      all_goals (simp only [go_sem, Nat.reduceEqDiff, Nat.reduceBEq, Int.reduceToNat, Int.reduceLT, Int.reduceLE, Int.reduceEq, Nat.reduceLeDiff, Nat.reduceLT, Nat.reduceMul, Nat.reduceAdd, String.reduceEq, i0, i1, i2, i3, i8, i10, i11, hm, e1, e2, e3])
      all_goals (refine hQ .ret _ ?_; clear hQ Q; refine post_ret _ _ (.tup [.agg (encE left), ii n]) ?_ ?_ (DropW.tail0 _ rfl) ⟨?_, rfl⟩)
      all_goals first | (rw [← hc]; done) | (simp [IV.np, npL, npE]; done) | (simp only [go_sem, Nat.reduceEqDiff, Nat.reduceBEq, Int.reduceToNat, Int.reduceLT, Int.reduceLE, Int.reduceEq, Nat.reduceLeDiff, Nat.reduceLT, Nat.reduceMul, Nat.reduceAdd, String.reduceEq, i8, encE_eq])
    · rw [if_neg hv] at hc
      have hadv : okA l ((n : Int) + 1) := ⟨by omega, T.last n h0' hq2 (by rw [hk]; decide)⟩
      have hs2 := (expr_adv T g).1 (n + 1) (level (tk l n).s + 1) depth hadv
      have hsub := fun m => ihE g (by omega) m (n + 1) (level (tk l n).s + 1) depth hadv (by unfold enough okA at *; omega) (by omega) (by omega) (by omega) (by omega)
      have hwl : IntKind.i64.wrap (level (tk l n).s + 1) = level (tk l n).s + 1 := wrap_small (by omega) (by omega)
      generalize exprF l g (n + 1) (level (tk l n).s + 1) depth = Y at hc hsub hs2
      refine TS.of [] fun Q hQ => ?_
      simp only [go_sem, Nat.reduceEqDiff, Nat.reduceBEq, Int.reduceToNat, Int.reduceLT, Int.reduceLE, Int.reduceEq, Nat.reduceLeDiff, Nat.reduceLT, Nat.reduceMul, Nat.reduceAdd, String.reduceEq, i0, i1, i2, i3, i8, i10, i11, hm, h0', hlt, hat, hl3, hk]
      refine cal_eq (level_sim _ _) ?_
      generalize level (tk l n).s = v at hv hlv hc hsub hwl ⊢
      have e1 : ¬ v < least := by omega
      have e2 : ¬ most < v := by omega
      have e3 : ¬ v = 0 := by omega
      simp only [go_sem, Nat.reduceEqDiff, Nat.reduceBEq, Int.reduceToNat, Int.reduceLT, Int.reduceLE, Int.reduceEq, Nat.reduceLeDiff, Nat.reduceLT, Nat.reduceMul, Nat.reduceAdd, String.reduceEq, i0, i1, i2, i3, i8, i10, i11, hm, h0', hlt, hat, hl3, hw, hwl, e1, e2, e3]
      refine cal_eq (hsub _) ?_
      have hnew : encE (.mk 6 0 (tk l n).s [left, Y.1] (tk l n).p) = [ii 6, ii 0, ss (tk l n).s, .sl .sh 2 [ii left.k, ii left.n, ss left.s, slE left.a, ii left.p, ii Y.1.k, ii Y.1.n, ss Y.1.s, slE Y.1.a, ii Y.1.p], ii (tk l n).p] := by
        simp only [encE_eq, Expr.k_mk, Expr.n_mk, Expr.s_mk, Expr.a_mk, Expr.p_mk, slE, encEs, List.append_nil, List.cons_append, List.nil_append, List.length_cons, List.length_nil]
      by_cases e4 : v = 3
      · rw [if_pos e4] at hc
        simp only [go_sem, Nat.reduceEqDiff, Nat.reduceBEq, Int.reduceToNat, Int.reduceLT, Int.reduceLE, Int.reduceEq, Nat.reduceLeDiff, Nat.reduceLT, Nat.reduceMul, Nat.reduceAdd, String.reduceEq, encE_eq, e4, i0, i1, i2, i3, i8, i10, i11]
        refine hQ .normal _ ?_; clear hQ Q
        refine ⟨m.objs.length + 2, m.rows.length, (g, .mk 6 0 (tk l n).s [left, Y.1] (tk l n).p, Y.2, 2), ?_, ?_, ⟨?_, ?_, ?_, hc⟩, ?_⟩
        · dsimp only; rw [hnew, encE_eq left]; exact DropW.loc m.objs [.cells zE, .cells [_, _, _, _, _]] [.cells zE, .cells [_, _, _, _, _]] [_, _] m.rows m.rows m.rows (Nat.le_refl _) (by simp [IObj.np, npL, IV.np, SK.np, npEs]) (Nat.le_refl _) (by simp)
        · simp [upd_apply, i0, i2, i3, i8, i10, IV.np, SK.np, npK, npL]
        · dsimp only; omega
        · dsimp only; exact hs2.1
        · dsimp only; unfold adv okA at *; omega
        · dsimp only; omega
      · rw [if_neg e4] at hc
        simp only [go_sem, Nat.reduceEqDiff, Nat.reduceBEq, Int.reduceToNat, Int.reduceLT, Int.reduceLE, Int.reduceEq, Nat.reduceLeDiff, Nat.reduceLT, Nat.reduceMul, Nat.reduceAdd, String.reduceEq, encE_eq, e4, i0, i1, i2, i3, i8, i10, i11]
        refine hQ .normal _ ?_; clear hQ Q
        refine ⟨m.objs.length + 2, m.rows.length, (g, .mk 6 0 (tk l n).s [left, Y.1] (tk l n).p, Y.2, v), ?_, ?_, ⟨?_, ?_, ?_, hc⟩, ?_⟩
        · dsimp only; rw [hnew, encE_eq left]; exact DropW.loc m.objs [.cells zE, .cells [_, _, _, _, _]] [.cells zE, .cells [_, _, _, _, _]] [_, _] m.rows m.rows m.rows (Nat.le_refl _) (by simp [IObj.np, npL, IV.np, SK.np, npEs]) (Nat.le_refl _) (by simp)
        · simp [upd_apply, i0, i2, i3, i8, i10, IV.np, SK.np, npK, npL]
        · dsimp only; omega
        · dsimp only; exact hs2.1
        · dsimp only; unfold adv okA at *; omega
        · dsimp only; omega
  · rw [loopF, if_neg (by rintro ⟨_, h⟩; exact hk h)] at hc
    refine TS.of [] fun Q hQ => ?_
    simp only [go_sem, Nat.reduceEqDiff, Nat.reduceBEq, Int.reduceToNat, Int.reduceLT, Int.reduceLE, Int.reduceEq, Nat.reduceLeDiff, Nat.reduceLT, Nat.reduceMul, Nat.reduceAdd, String.reduceEq, i0, i1, i2, i3, i8, i10, i11, hm, h0', hlt, hat, hl3, hk]
    refine hQ (.exit 0) _ ?_; clear hQ Q
    refine TS.of [] fun Q hQ => ?_
    simp only [go_sem, Nat.reduceEqDiff, Nat.reduceBEq, Int.reduceToNat, Int.reduceLT, Int.reduceLE, Int.reduceEq, Nat.reduceLeDiff, Nat.reduceLT, Nat.reduceMul, Nat.reduceAdd, String.reduceEq, i0, i1, i2, i3, i8, i10, i11, hm]
    refine hQ .ret _ ?_; clear hQ Q; refine post_ret _ _ (.tup [.agg (encE left), ii n]) ?_ ?_ (DropW.tail0 _ rfl) ⟨?_, rfl⟩
    · simp only [go_sem, Nat.reduceEqDiff, Nat.reduceBEq, Int.reduceToNat, Int.reduceLT, Int.reduceLE, Int.reduceEq, Nat.reduceLeDiff, Nat.reduceLT, Nat.reduceMul, Nat.reduceAdd, String.reduceEq, i8, encE_eq] <;> rfl
    · simp [IV.np, npL, npE]
    · rw [← hc]
theorem expr_all {l : List Tok} (T : Toks l) (hsz : ∀ p, (tk l p).s.size < 900000) : ∀ f, (∀ g, g ≤ f → ES l g) ∧ SS l f ∧ AS l f := by
  have z : ES l 0 ∧ SS l 0 ∧ AS l 0 := by
    refine ⟨fun m p least depth ho hen => ?_, fun m p depth ho hen => ?_, fun m p depth a b ho hen => ?_⟩ <;> (exfalso; unfold enough okA at *; omega)
  intro f
  induction f with
  | zero => exact ⟨fun g hg => by obtain rfl : g = 0 := by omega
                                  exact z.1, z.2⟩
  | succ f ih =>
    obtain ⟨h1, h2, h3⟩ := ih
    refine ⟨fun g hg => ?_, small_step T hsz h2 h3, around_step T (h1 f (Nat.le_refl f))⟩
    by_cases e : g = f + 1
    · subst e; exact expr_step T h2 h1
    · exact h1 g (by omega)
theorem expr_sim {l : List Tok} (T : Toks l) (hsz : ∀ p, (tk l p).s.size < 900000) (m : Mem) (p least depth : Int) (ho : okA l p) (hd : 0 ≤ depth) (hd' : depth ≤ 1000) (h0 : 0 ≤ least) (h1 : least ≤ 100) : Sim 75 [slK l, ii p, ii least, ii depth] m (fun r m' => r = .tup [.agg (encE (expr l p least depth).1), ii (expr l p least depth).2] ∧ m' = m) :=
  (expr_all T hsz (fuelE l)).1 _ (Nat.le_refl _) m p least depth ho (by unfold enough fuelE okA at *; omega) hd (by have := T.lt; unfold fuelE; omega) h0 h1
theorem around_sim {l : List Tok} (T : Toks l) (hsz : ∀ p, (tk l p).s.size < 900000) (m : Mem) (p depth : Int) (a b : Bytes) (ho : okA l p) (hd : 0 ≤ depth) (hd' : depth ≤ 1000) : Sim 101 [slK l, ii p, ii depth, ss a, ss b] m (fun r m' => r = .tup [.agg (encE (around l p depth a b).1), ii (around l p depth a b).2] ∧ m' = m) :=
  (expr_all T hsz (fuelE l)).2.2 m p depth a b ho (by unfold enough fuelE okA at *; omega) hd (by have := T.lt; unfold fuelE; omega)
end Go.Proofs.Ytphjldhdnmoolaa.A
/- The walks of some functions over the abstract machine. -/
namespace Go.Proofs.Ytphjldhdnmoolaa.A
open Go
theorem Stmt.k_mk {k s x n b e p} : (Stmt.mk k s x n b e p).k = k := rfl
theorem Stmt.s_mk {k s x n b e p} : (Stmt.mk k s x n b e p).s = s := rfl
theorem Stmt.x_mk {k s x n b e p} : (Stmt.mk k s x n b e p).x = x := rfl
theorem Stmt.n_mk {k s x n b e p} : (Stmt.mk k s x n b e p).n = n := rfl
theorem Stmt.b_mk {k s x n b e p} : (Stmt.mk k s x n b e p).b = b := rfl
theorem Stmt.e_mk {k s x n b e p} : (Stmt.mk k s x n b e p).e = e := rfl
theorem Stmt.p_mk {k s x n b e p} : (Stmt.mk k s x n b e p).p = p := rfl
set_option maxRecDepth 100000 in
set_option maxHeartbeats 4000000 in
theorem cell_sim {l : List Tok} (T : Toks l) (hsz : ∀ p, (tk l p).s.size < 900000) (m : Mem) (p depth : Int) (ho : okA l p) (h0 : 0 ≤ p) (hd : 0 ≤ depth) (hd' : depth ≤ 1000) : Sim 92 [slK l, ii p, ii depth] m (fun r m' => r = .tup [.agg (encT (cellS l p depth).1), ii (cellS l p depth).2] ∧ m' = m) := by
  have hp := ho
  obtain ⟨h1, h2⟩ := ho
  have hl := T.lt
  refine Sim.ofS 99 [.cell 6 104, .tmp 7] Try.func92 rfl rfl rfl (by simp) fun wr => ?_
  simp only [go_sem, Nat.reduceEqDiff, Nat.reduceBEq, Int.reduceToNat, Int.reduceLT, Int.reduceLE, Int.reduceEq, Nat.reduceLeDiff, Nat.reduceLT, Nat.reduceMul, Nat.reduceAdd, String.reduceEq]
  obtain ⟨n, rfl⟩ := nat_of (p := p) (by omega)
  have hlt : n < l.length := by omega
  have hat := encK_at (tk_at hlt)
  have hl3 := encK_lt hlt
  have hgo : cellS l n depth = cellS l n depth := rfl
  conv at hgo => rhs; unfold cellS
  have hsub := fun m => around_sim T hsz m n depth qLB qRB hp hd hd'
  have ha := around_adv1 T (depth := depth) (a := qLB) (b := qRB) hp
  generalize around l n depth qLB qRB = X at hgo hsub ha
  have hX := ha.1
  obtain ⟨hX1, hX2⟩ := ha.1
  refine TS.of [] fun Q hQ => ?_
  simp only [go_sem, Nat.reduceEqDiff, Nat.reduceBEq, Int.reduceToNat, Int.reduceLT, Int.reduceLE, Int.reduceEq, Nat.reduceLeDiff, Nat.reduceLT, Nat.reduceMul, Nat.reduceAdd, String.reduceEq, h0, hlt, hat, hl3]
  refine cal_eq (hsub _) ?_
  simp only [go_sem, Nat.reduceEqDiff, Nat.reduceBEq, Int.reduceToNat, Int.reduceLT, Int.reduceLE, Int.reduceEq, Nat.reduceLeDiff, Nat.reduceLT, Nat.reduceMul, Nat.reduceAdd, String.reduceEq, encE_eq]
  refine cal_eq (is_sim _ l X.2 qSet hX2) ?_
  have hwx : 0 ≤ X.2 → IntKind.i64.wrap (X.2 + 1) = X.2 + 1 := fun _ => wrap_small (by omega) (by omega)
  cases hA : isP l X.2 qSet with
  | true =>
    have hnx := isP_lt T hX hA
    have hns : isP l X.2 qSwap = false := by
      cases h : isP l X.2 qSwap with
      | false => rfl
      | true => have e1 := (isP_k T hA).2.2; have e2 := (isP_k T h).2.2; rw [e1] at e2; exact absurd e2 (by decide)
    rw [if_neg (by simp [hns]), if_pos (by simp [hA]), if_pos hA] at hgo
    have hsub2 := fun m => expr_sim T hsz m (X.2 + 1) 1 depth hnx.2 hd hd' (by omega) (by omega)
    have hy := expr_adv1 T (least := 1) (depth := depth) hnx.2
    generalize expr l (X.2 + 1) 1 depth = Y at hgo hsub2 hy
    simp only [go_sem, Nat.reduceEqDiff, Nat.reduceBEq, Int.reduceToNat, Int.reduceLT, Int.reduceLE, Int.reduceEq, Nat.reduceLeDiff, Nat.reduceLT, Nat.reduceMul, Nat.reduceAdd, String.reduceEq, hwx hnx.1]
    refine cal_eq (hsub2 _) ?_
    simp only [go_sem, Nat.reduceEqDiff, Nat.reduceBEq, Int.reduceToNat, Int.reduceLT, Int.reduceLE, Int.reduceEq, Nat.reduceLeDiff, Nat.reduceLT, Nat.reduceMul, Nat.reduceAdd, String.reduceEq, encE_eq]
    refine drn_of ⟨[], [], []⟩ [0, 0, 0, 6, 15, 31] (by kernel_rfl) ?_
    simp only [go_sem, Nat.reduceEqDiff, Nat.reduceBEq, Int.reduceToNat, Int.reduceLT, Int.reduceLE, Int.reduceEq, Nat.reduceLeDiff, Nat.reduceLT, Nat.reduceMul, Nat.reduceAdd, String.reduceEq, encE_eq]
    refine cald_eq (eat_sim _ l Y.2 qSemi hy.1 hl) ?_
    simp only [go_sem, Nat.reduceEqDiff, Nat.reduceBEq, Int.reduceToNat, Int.reduceLT, Int.reduceLE, Int.reduceEq, Nat.reduceLeDiff, Nat.reduceLT, Nat.reduceMul, Nat.reduceAdd, String.reduceEq]
    refine hQ .ret _ ?_; clear hQ Q; refine post_ret _ _ (.tup [.agg (encT (.mk 2 ByteArray.empty [X.1, Y.1] 0 [] [] (tk l n).p)), ii (eatP l Y.2 qSemi)]) ?_ ?_ (DropW.tail0 _ rfl) ⟨?_, rfl⟩
    · simp only [go_sem, Nat.reduceEqDiff, Nat.reduceBEq, Int.reduceToNat, Int.reduceLT, Int.reduceLE, Int.reduceEq, Nat.reduceLeDiff, Nat.reduceLT, Nat.reduceMul, Nat.reduceAdd, String.reduceEq, encT_eq, encE_eq, Stmt.k_mk, Stmt.s_mk, Stmt.x_mk, Stmt.n_mk, Stmt.b_mk, Stmt.e_mk, Stmt.p_mk, encEs, encTs, slE, slT, List.append_nil] <;> rfl
    · simp [IV.np, npL, npT]
    · rw [hgo]
  | false =>
    simp only [go_sem, Nat.reduceEqDiff, Nat.reduceBEq, Int.reduceToNat, Int.reduceLT, Int.reduceLE, Int.reduceEq, Nat.reduceLeDiff, Nat.reduceLT, Nat.reduceMul, Nat.reduceAdd, String.reduceEq]
    refine cal_eq (is_sim _ l X.2 qAddS hX2) ?_
    cases hB : isP l X.2 qAddS with
    | true =>
      have hnx := isP_lt T hX hB
      have hns : isP l X.2 qSwap = false := by
        cases h : isP l X.2 qSwap with
        | false => rfl
        | true => have e1 := (isP_k T hB).2.2; have e2 := (isP_k T h).2.2; rw [e1] at e2; exact absurd e2 (by decide)
      rw [if_neg (by simp [hns]), if_pos (by simp [hB]), if_neg (by simp [hA]), if_pos hB] at hgo
      have hsub2 := fun m => expr_sim T hsz m (X.2 + 1) 1 depth hnx.2 hd hd' (by omega) (by omega)
      have hy := expr_adv1 T (least := 1) (depth := depth) hnx.2
      generalize expr l (X.2 + 1) 1 depth = Y at hgo hsub2 hy
      simp only [go_sem, Nat.reduceEqDiff, Nat.reduceBEq, Int.reduceToNat, Int.reduceLT, Int.reduceLE, Int.reduceEq, Nat.reduceLeDiff, Nat.reduceLT, Nat.reduceMul, Nat.reduceAdd, String.reduceEq, hwx hnx.1]
      refine cal_eq (hsub2 _) ?_
      simp only [go_sem, Nat.reduceEqDiff, Nat.reduceBEq, Int.reduceToNat, Int.reduceLT, Int.reduceLE, Int.reduceEq, Nat.reduceLeDiff, Nat.reduceLT, Nat.reduceMul, Nat.reduceAdd, String.reduceEq, encE_eq]
      refine drn_of ⟨[], [], []⟩ [0, 0, 0, 6, 15, 31] (by kernel_rfl) ?_
      simp only [go_sem, Nat.reduceEqDiff, Nat.reduceBEq, Int.reduceToNat, Int.reduceLT, Int.reduceLE, Int.reduceEq, Nat.reduceLeDiff, Nat.reduceLT, Nat.reduceMul, Nat.reduceAdd, String.reduceEq, encE_eq]
      refine cald_eq (eat_sim _ l Y.2 qSemi hy.1 hl) ?_
      simp only [go_sem, Nat.reduceEqDiff, Nat.reduceBEq, Int.reduceToNat, Int.reduceLT, Int.reduceLE, Int.reduceEq, Nat.reduceLeDiff, Nat.reduceLT, Nat.reduceMul, Nat.reduceAdd, String.reduceEq]
      refine hQ .ret _ ?_; clear hQ Q; refine post_ret _ _ (.tup [.agg (encT (.mk 3 ByteArray.empty [X.1, Y.1] 0 [] [] (tk l n).p)), ii (eatP l Y.2 qSemi)]) ?_ ?_ (DropW.tail0 _ rfl) ⟨?_, rfl⟩
      · simp only [go_sem, Nat.reduceEqDiff, Nat.reduceBEq, Int.reduceToNat, Int.reduceLT, Int.reduceLE, Int.reduceEq, Nat.reduceLeDiff, Nat.reduceLT, Nat.reduceMul, Nat.reduceAdd, String.reduceEq, encT_eq, encE_eq, Stmt.k_mk, Stmt.s_mk, Stmt.x_mk, Stmt.n_mk, Stmt.b_mk, Stmt.e_mk, Stmt.p_mk, encEs, encTs, slE, slT, List.append_nil] <;> rfl
      · simp [IV.np, npL, npT]
      · rw [hgo]
    | false =>
      simp only [go_sem, Nat.reduceEqDiff, Nat.reduceBEq, Int.reduceToNat, Int.reduceLT, Int.reduceLE, Int.reduceEq, Nat.reduceLeDiff, Nat.reduceLT, Nat.reduceMul, Nat.reduceAdd, String.reduceEq]
      refine cal_eq (is_sim _ l X.2 qSubS hX2) ?_
      cases hC : isP l X.2 qSubS with
      | true =>
        have hnx := isP_lt T hX hC
        have hns : isP l X.2 qSwap = false := by
          cases h : isP l X.2 qSwap with
          | false => rfl
          | true => have e1 := (isP_k T hC).2.2; have e2 := (isP_k T h).2.2; rw [e1] at e2; exact absurd e2 (by decide)
        rw [if_neg (by simp [hns]), if_pos (by simp [hC]), if_neg (by simp [hA]), if_neg (by simp [hB])] at hgo
        have hsub2 := fun m => expr_sim T hsz m (X.2 + 1) 1 depth hnx.2 hd hd' (by omega) (by omega)
        have hy := expr_adv1 T (least := 1) (depth := depth) hnx.2
        generalize expr l (X.2 + 1) 1 depth = Y at hgo hsub2 hy
        simp only [go_sem, Nat.reduceEqDiff, Nat.reduceBEq, Int.reduceToNat, Int.reduceLT, Int.reduceLE, Int.reduceEq, Nat.reduceLeDiff, Nat.reduceLT, Nat.reduceMul, Nat.reduceAdd, String.reduceEq, hwx hnx.1]
        refine cal_eq (hsub2 _) ?_
        simp only [go_sem, Nat.reduceEqDiff, Nat.reduceBEq, Int.reduceToNat, Int.reduceLT, Int.reduceLE, Int.reduceEq, Nat.reduceLeDiff, Nat.reduceLT, Nat.reduceMul, Nat.reduceAdd, String.reduceEq, encE_eq]
        refine drn_of ⟨[], [], []⟩ [0, 0, 0, 6, 15, 31] (by kernel_rfl) ?_
        simp only [go_sem, Nat.reduceEqDiff, Nat.reduceBEq, Int.reduceToNat, Int.reduceLT, Int.reduceLE, Int.reduceEq, Nat.reduceLeDiff, Nat.reduceLT, Nat.reduceMul, Nat.reduceAdd, String.reduceEq, encE_eq]
        refine cald_eq (eat_sim _ l Y.2 qSemi hy.1 hl) ?_
        simp only [go_sem, Nat.reduceEqDiff, Nat.reduceBEq, Int.reduceToNat, Int.reduceLT, Int.reduceLE, Int.reduceEq, Nat.reduceLeDiff, Nat.reduceLT, Nat.reduceMul, Nat.reduceAdd, String.reduceEq]
        refine hQ .ret _ ?_; clear hQ Q; refine post_ret _ _ (.tup [.agg (encT (.mk 4 ByteArray.empty [X.1, Y.1] 0 [] [] (tk l n).p)), ii (eatP l Y.2 qSemi)]) ?_ ?_ (DropW.tail0 _ rfl) ⟨?_, rfl⟩
        · simp only [go_sem, Nat.reduceEqDiff, Nat.reduceBEq, Int.reduceToNat, Int.reduceLT, Int.reduceLE, Int.reduceEq, Nat.reduceLeDiff, Nat.reduceLT, Nat.reduceMul, Nat.reduceAdd, String.reduceEq, encT_eq, encE_eq, Stmt.k_mk, Stmt.s_mk, Stmt.x_mk, Stmt.n_mk, Stmt.b_mk, Stmt.e_mk, Stmt.p_mk, encEs, encTs, slE, slT, List.append_nil] <;> rfl
        · simp [IV.np, npL, npT]
        · rw [hgo]
      | false =>
        simp only [go_sem, Nat.reduceEqDiff, Nat.reduceBEq, Int.reduceToNat, Int.reduceLT, Int.reduceLE, Int.reduceEq, Nat.reduceLeDiff, Nat.reduceLT, Nat.reduceMul, Nat.reduceAdd, String.reduceEq]
        refine cal_eq (is_sim _ l X.2 qSwap hX2) ?_
        cases hD : isP l X.2 qSwap with
        | true =>
          have hnx := isP_lt T hX hD
          obtain ⟨hn1, hn2⟩ := hnx.2
          rw [if_pos hD] at hgo
          have hsub2 := fun m => around_sim T hsz m (X.2 + 1) depth qLB qRB hnx.2 hd hd'
          have hy := around_adv1 T (depth := depth) (a := qLB) (b := qRB) hnx.2
          generalize around l (X.2 + 1) depth qLB qRB = Y at hgo hsub2 hy
          have hso : okA l (swapEnd l X.2 Y.2) := by
            unfold swapEnd; split
            · exact (bad_adv T (p := 0) hnx.2 (by omega)).1
            · exact hy.1
          have hso1 := hso.1
          have hso2 := hso.2
          simp only [go_sem, Nat.reduceEqDiff, Nat.reduceBEq, Int.reduceToNat, Int.reduceLT, Int.reduceLE, Int.reduceEq, Nat.reduceLeDiff, Nat.reduceLT, Nat.reduceMul, Nat.reduceAdd, String.reduceEq, hwx hnx.1]
          refine cal_eq (hsub2 _) ?_
          simp only [go_sem, Nat.reduceEqDiff, Nat.reduceBEq, Int.reduceToNat, Int.reduceLT, Int.reduceLE, Int.reduceEq, Nat.reduceLeDiff, Nat.reduceLT, Nat.reduceMul, Nat.reduceAdd, String.reduceEq, encE_eq, hwx hnx.1]
          by_cases hneg : Y.2 < 0
          · simp only [go_sem, Nat.reduceEqDiff, Nat.reduceBEq, Int.reduceToNat, Int.reduceLT, Int.reduceLE, Int.reduceEq, Nat.reduceLeDiff, Nat.reduceLT, Nat.reduceMul, Nat.reduceAdd, String.reduceEq, hneg, hwx hnx.1]
            refine cal_eq (is_sim _ l (X.2 + 1) qLB hn2) ?_
            cases hE : isP l (X.2 + 1) qLB with
            | true =>
              have hsw : swapEnd l X.2 Y.2 = Y.2 := by simp [swapEnd, hE]
              dsimp only at hgo; rw [hsw] at hgo
              simp only [go_sem, Nat.reduceEqDiff, Nat.reduceBEq, Int.reduceToNat, Int.reduceLT, Int.reduceLE, Int.reduceEq, Nat.reduceLeDiff, Nat.reduceLT, Nat.reduceMul, Nat.reduceAdd, String.reduceEq]
              refine drn_of ⟨[], [], []⟩ [0, 0, 0, 6, 15, 31] (by kernel_rfl) ?_
              simp only [go_sem, Nat.reduceEqDiff, Nat.reduceBEq, Int.reduceToNat, Int.reduceLT, Int.reduceLE, Int.reduceEq, Nat.reduceLeDiff, Nat.reduceLT, Nat.reduceMul, Nat.reduceAdd, String.reduceEq]
              refine cald_eq (eat_sim _ l Y.2 qSemi hy.1 hl) ?_
              simp only [go_sem, Nat.reduceEqDiff, Nat.reduceBEq, Int.reduceToNat, Int.reduceLT, Int.reduceLE, Int.reduceEq, Nat.reduceLeDiff, Nat.reduceLT, Nat.reduceMul, Nat.reduceAdd, String.reduceEq]
              refine hQ .ret _ ?_; clear hQ Q; refine post_ret _ _ (.tup [.agg (encT (.mk 5 ByteArray.empty [X.1, Y.1] 0 [] [] (tk l n).p)), ii (eatP l Y.2 qSemi)]) ?_ ?_ (DropW.tail0 _ rfl) ⟨?_, rfl⟩
              · simp only [go_sem, Nat.reduceEqDiff, Nat.reduceBEq, Int.reduceToNat, Int.reduceLT, Int.reduceLE, Int.reduceEq, Nat.reduceLeDiff, Nat.reduceLT, Nat.reduceMul, Nat.reduceAdd, String.reduceEq, encT_eq, encE_eq, Stmt.k_mk, Stmt.s_mk, Stmt.x_mk, Stmt.n_mk, Stmt.b_mk, Stmt.e_mk, Stmt.p_mk, encEs, encTs, slE, slT, List.append_nil] <;> rfl
              · simp [IV.np, npL, npT]
              · rw [hgo]
            | false =>
              have hsw : swapEnd l X.2 Y.2 = bad (X.2 + 1) := by simp [swapEnd, hE, hneg]
              dsimp only at hgo; rw [hsw] at hgo hso
              simp only [go_sem, Nat.reduceEqDiff, Nat.reduceBEq, Int.reduceToNat, Int.reduceLT, Int.reduceLE, Int.reduceEq, Nat.reduceLeDiff, Nat.reduceLT, Nat.reduceMul, Nat.reduceAdd, String.reduceEq, hwx hnx.1]
              refine cal_eq (bad_sim _ (X.2 + 1) (by omega)) ?_
              simp only [go_sem, Nat.reduceEqDiff, Nat.reduceBEq, Int.reduceToNat, Int.reduceLT, Int.reduceLE, Int.reduceEq, Nat.reduceLeDiff, Nat.reduceLT, Nat.reduceMul, Nat.reduceAdd, String.reduceEq]
              refine drn_of ⟨[], [], []⟩ [0, 0, 0, 6, 15, 31] (by kernel_rfl) ?_
              simp only [go_sem, Nat.reduceEqDiff, Nat.reduceBEq, Int.reduceToNat, Int.reduceLT, Int.reduceLE, Int.reduceEq, Nat.reduceLeDiff, Nat.reduceLT, Nat.reduceMul, Nat.reduceAdd, String.reduceEq]
              refine cald_eq (eat_sim _ l (bad (X.2 + 1)) qSemi hso hl) ?_
              simp only [go_sem, Nat.reduceEqDiff, Nat.reduceBEq, Int.reduceToNat, Int.reduceLT, Int.reduceLE, Int.reduceEq, Nat.reduceLeDiff, Nat.reduceLT, Nat.reduceMul, Nat.reduceAdd, String.reduceEq]
              refine hQ .ret _ ?_; clear hQ Q; refine post_ret _ _ (.tup [.agg (encT (.mk 5 ByteArray.empty [X.1, Y.1] 0 [] [] (tk l n).p)), ii (eatP l (bad (X.2 + 1)) qSemi)]) ?_ ?_ (DropW.tail0 _ rfl) ⟨?_, rfl⟩
              · simp only [go_sem, Nat.reduceEqDiff, Nat.reduceBEq, Int.reduceToNat, Int.reduceLT, Int.reduceLE, Int.reduceEq, Nat.reduceLeDiff, Nat.reduceLT, Nat.reduceMul, Nat.reduceAdd, String.reduceEq, encT_eq, encE_eq, Stmt.k_mk, Stmt.s_mk, Stmt.x_mk, Stmt.n_mk, Stmt.b_mk, Stmt.e_mk, Stmt.p_mk, encEs, encTs, slE, slT, List.append_nil] <;> rfl
              · simp [IV.np, npL, npT]
              · rw [hgo]
          · have hsw : swapEnd l X.2 Y.2 = Y.2 := by simp [swapEnd, hneg]
            dsimp only at hgo; rw [hsw] at hgo
            simp only [go_sem, Nat.reduceEqDiff, Nat.reduceBEq, Int.reduceToNat, Int.reduceLT, Int.reduceLE, Int.reduceEq, Nat.reduceLeDiff, Nat.reduceLT, Nat.reduceMul, Nat.reduceAdd, String.reduceEq, hneg]
            refine drn_of ⟨[], [], []⟩ [0, 0, 0, 6, 15, 31] (by kernel_rfl) ?_
            simp only [go_sem, Nat.reduceEqDiff, Nat.reduceBEq, Int.reduceToNat, Int.reduceLT, Int.reduceLE, Int.reduceEq, Nat.reduceLeDiff, Nat.reduceLT, Nat.reduceMul, Nat.reduceAdd, String.reduceEq]
            refine cald_eq (eat_sim _ l Y.2 qSemi hy.1 hl) ?_
            simp only [go_sem, Nat.reduceEqDiff, Nat.reduceBEq, Int.reduceToNat, Int.reduceLT, Int.reduceLE, Int.reduceEq, Nat.reduceLeDiff, Nat.reduceLT, Nat.reduceMul, Nat.reduceAdd, String.reduceEq]
            refine hQ .ret _ ?_; clear hQ Q; refine post_ret _ _ (.tup [.agg (encT (.mk 5 ByteArray.empty [X.1, Y.1] 0 [] [] (tk l n).p)), ii (eatP l Y.2 qSemi)]) ?_ ?_ (DropW.tail0 _ rfl) ⟨?_, rfl⟩
            · simp only [go_sem, Nat.reduceEqDiff, Nat.reduceBEq, Int.reduceToNat, Int.reduceLT, Int.reduceLE, Int.reduceEq, Nat.reduceLeDiff, Nat.reduceLT, Nat.reduceMul, Nat.reduceAdd, String.reduceEq, encT_eq, encE_eq, Stmt.k_mk, Stmt.s_mk, Stmt.x_mk, Stmt.n_mk, Stmt.b_mk, Stmt.e_mk, Stmt.p_mk, encEs, encTs, slE, slT, List.append_nil] <;> rfl
            · simp [IV.np, npL, npT]
            · rw [hgo]
        | false =>
          rw [if_neg (by simp [hD]), if_neg (by simp [hA, hB, hC])] at hgo
          by_cases hneg : X.2 < 0
          · rw [if_pos hneg] at hgo
            simp only [go_sem, Nat.reduceEqDiff, Nat.reduceBEq, Int.reduceToNat, Int.reduceLT, Int.reduceLE, Int.reduceEq, Nat.reduceLeDiff, Nat.reduceLT, Nat.reduceMul, Nat.reduceAdd, String.reduceEq, hneg]
            refine hQ .ret _ ?_; clear hQ Q; refine post_ret _ _ (.tup [.agg (encT (.mk 0 ByteArray.empty [] 0 [] [] (tk l n).p)), ii X.2]) ?_ ?_ (DropW.tail0 _ rfl) ⟨?_, rfl⟩
            · simp only [go_sem, Nat.reduceEqDiff, Nat.reduceBEq, Int.reduceToNat, Int.reduceLT, Int.reduceLE, Int.reduceEq, Nat.reduceLeDiff, Nat.reduceLT, Nat.reduceMul, Nat.reduceAdd, String.reduceEq, encT_eq, encE_eq, Stmt.k_mk, Stmt.s_mk, Stmt.x_mk, Stmt.n_mk, Stmt.b_mk, Stmt.e_mk, Stmt.p_mk, encEs, encTs, slE, slT, List.append_nil] <;> rfl
            · simp [IV.np, npL, npT]
            · rw [hgo]
          · rw [if_neg hneg] at hgo
            simp only [go_sem, Nat.reduceEqDiff, Nat.reduceBEq, Int.reduceToNat, Int.reduceLT, Int.reduceLE, Int.reduceEq, Nat.reduceLeDiff, Nat.reduceLT, Nat.reduceMul, Nat.reduceAdd, String.reduceEq, hneg]
            refine drn_of ⟨[], [], []⟩ [0, 0, 2, 7, 15] (by kernel_rfl) ?_
            simp only [go_sem, Nat.reduceEqDiff, Nat.reduceBEq, Int.reduceToNat, Int.reduceLT, Int.reduceLE, Int.reduceEq, Nat.reduceLeDiff, Nat.reduceLT, Nat.reduceMul, Nat.reduceAdd, String.reduceEq]
            refine cald_eq (bad_sim _ X.2 (by omega)) ?_
            simp only [go_sem, Nat.reduceEqDiff, Nat.reduceBEq, Int.reduceToNat, Int.reduceLT, Int.reduceLE, Int.reduceEq, Nat.reduceLeDiff, Nat.reduceLT, Nat.reduceMul, Nat.reduceAdd, String.reduceEq]
            refine hQ .ret _ ?_; clear hQ Q; refine post_ret _ _ (.tup [.agg (encT (.mk 0 ByteArray.empty [] 0 [] [] (tk l n).p)), ii (bad X.2)]) ?_ ?_ (DropW.tail0 _ rfl) ⟨?_, rfl⟩
            · simp only [go_sem, Nat.reduceEqDiff, Nat.reduceBEq, Int.reduceToNat, Int.reduceLT, Int.reduceLE, Int.reduceEq, Nat.reduceLeDiff, Nat.reduceLT, Nat.reduceMul, Nat.reduceAdd, String.reduceEq, encT_eq, encE_eq, Stmt.k_mk, Stmt.s_mk, Stmt.x_mk, Stmt.n_mk, Stmt.b_mk, Stmt.e_mk, Stmt.p_mk, encEs, encTs, slE, slT, List.append_nil] <;> rfl
            · simp [IV.np, npL, npT]
            · rw [hgo]
end Go.Proofs.Ytphjldhdnmoolaa.A
/- The walks of some functions over the abstract machine. -/
namespace Go.Proofs.Ytphjldhdnmoolaa.A
open Go
theorem np_sh {nr : Nat} : SK.np nr .sh = true := rfl
theorem np_full {nr : Nat} : SK.np nr .full = true := rfl
def SB (l : List Tok) (f : Nat) : Prop := ∀ (m : Mem) (p depth : Int), okA l p → 0 ≤ p → 3 * ((l.length : Int) - p) ≤ f → 0 ≤ depth → depth ≤ 12 → Sim 76 [slK l, ii p, ii depth] m (fun r m' => r = .tup [.agg (encT (stmtF l f p depth).1), ii (stmtF l f p depth).2] ∧ m' = m)
def BB (l : List Tok) (f : Nat) : Prop := ∀ (m : Mem) (p depth : Int), okA l p → (p < 0 → 2 ≤ f) → (0 ≤ p → 3 * ((l.length : Int) - p) + 2 ≤ f) → 0 ≤ depth → depth ≤ 12 → Sim 93 [slK l, ii p, ii depth] m (fun r m' => r = .tup [slT (blockF l f p depth).1, ii (blockF l f p depth).2] ∧ m' = m)
set_option maxRecDepth 100000 in
set_option maxHeartbeats 4000000 in
theorem stmt_step {l : List Tok} (T : Toks l) (hsz : ∀ p, (tk l p).s.size < 900000) {f : Nat} (ih : BB l f) : SB l (f + 1) := by
  intro m p depth ho h0 hen hd hd'
  have hp := ho
  obtain ⟨h1, h2⟩ := ho
  have hl := T.lt
  refine Sim.ofS 143 [.cell 6 104, .tmp 7] Try.func76 rfl rfl rfl (by simp) fun wr => ?_
  simp only [go_sem, Nat.reduceEqDiff, Nat.reduceBEq, Int.reduceToNat, Int.reduceLT, Int.reduceLE, Int.reduceEq, Nat.reduceLeDiff, Nat.reduceLT, Nat.reduceMul, Nat.reduceAdd, String.reduceEq]
  obtain ⟨n, rfl⟩ := nat_of (p := p) (by omega)
  have hlt : n < l.length := by omega
  have hat := encK_at (tk_at hlt)
  have hl3 := encK_lt hlt
  have hw : IntKind.i64.wrap ((n : Int) + 1) = (n : Int) + 1 := wrap_small (by omega) (by omega)
  have hgo : stmtF l (f + 1) n depth = stmtF l (f + 1) n depth := rfl
  conv at hgo => rhs; unfold stmtF
  have blk : ∀ q, adv l (n + 1) q → (q < 0 → 2 ≤ f) ∧ (0 ≤ q → 3 * ((l.length : Int) - q) + 2 ≤ f) := by
    intro q hq; unfold adv okA at *; omega
  refine TS.of [] fun Q hQ => ?_
  simp only [go_sem, Nat.reduceEqDiff, Nat.reduceBEq, Int.reduceToNat, Int.reduceLT, Int.reduceLE, Int.reduceEq, Nat.reduceLeDiff, Nat.reduceLT, Nat.reduceMul, Nat.reduceAdd, String.reduceEq, h0, hlt, hat, hl3]
  refine cal_eq (is_sim _ l n qLB h2) ?_
  cases hA : isP l n qLB with
  | true =>
    rw [if_pos hA] at hgo
    have hsub := fun m => cell_sim T hsz m n depth hp h0 hd (by omega)
    generalize cellS l n depth = X at hgo hsub
    simp only [go_sem, Nat.reduceEqDiff, Nat.reduceBEq, Int.reduceToNat, Int.reduceLT, Int.reduceLE, Int.reduceEq, Nat.reduceLeDiff, Nat.reduceLT, Nat.reduceMul, Nat.reduceAdd, String.reduceEq]
    refine cal_eq (hsub _) ?_
    simp only [go_sem, Nat.reduceEqDiff, Nat.reduceBEq, Int.reduceToNat, Int.reduceLT, Int.reduceLE, Int.reduceEq, Nat.reduceLeDiff, Nat.reduceLT, Nat.reduceMul, Nat.reduceAdd, String.reduceEq, encT_eq]
    refine hQ .ret _ ?_; clear hQ Q; refine post_ret _ _ (.tup [.agg (encT X.1), ii X.2]) ?_ ?_ (DropW.tail0 _ rfl) ⟨?_, rfl⟩
    · simp only [go_sem, Nat.reduceEqDiff, Nat.reduceBEq, Int.reduceToNat, Int.reduceLT, Int.reduceLE, Int.reduceEq, Nat.reduceLeDiff, Nat.reduceLT, Nat.reduceMul, Nat.reduceAdd, String.reduceEq, encT_eq, encE_eq, Stmt.k_mk, Stmt.s_mk, Stmt.x_mk, Stmt.n_mk, Stmt.b_mk, Stmt.e_mk, Stmt.p_mk, encEs, encTs, slE, slT, List.append_nil] <;> rfl
    · simp [IV.np, npL, npT]
    · rw [hgo]
  | false =>
    rw [if_neg (by simp [hA])] at hgo
    simp only [go_sem, Nat.reduceEqDiff, Nat.reduceBEq, Int.reduceToNat, Int.reduceLT, Int.reduceLE, Int.reduceEq, Nat.reduceLeDiff, Nat.reduceLT, Nat.reduceMul, Nat.reduceAdd, String.reduceEq]
    refine cal_eq (is_sim _ l n qLet h2) ?_
    cases hB : isP l n qLet with
    | true =>
      rw [if_pos hB] at hgo
      have hn1 := (isP_lt T hp hB).2
      have ha1 := wordP_adv T hn1
      have ha2 := eatP_adv T (t := qSet) ha1.1
      have hsub := fun m => expr_sim T hsz m (eatP l (wordP l (n + 1)).2 qSet) 1 depth ha2.1 hd (by omega) (by omega) (by omega)
      have ha3 := expr_adv1 T (least := 1) (depth := depth) ha2.1
      generalize hX : expr l (eatP l (wordP l (n + 1)).2 qSet) 1 depth = X at hgo hsub ha3
      simp only [go_sem, Nat.reduceEqDiff, Nat.reduceBEq, Int.reduceToNat, Int.reduceLT, Int.reduceLE, Int.reduceEq, Nat.reduceLeDiff, Nat.reduceLT, Nat.reduceMul, Nat.reduceAdd, String.reduceEq, hw]
      refine cal_eq (wordP_sim _ l (n + 1) hn1 hl) ?_
      simp only [go_sem, Nat.reduceEqDiff, Nat.reduceBEq, Int.reduceToNat, Int.reduceLT, Int.reduceLE, Int.reduceEq, Nat.reduceLeDiff, Nat.reduceLT, Nat.reduceMul, Nat.reduceAdd, String.reduceEq]
      refine cal_eq (eat_sim _ l (wordP l (n + 1)).2 qSet ha1.1 hl) ?_
      simp only [go_sem, Nat.reduceEqDiff, Nat.reduceBEq, Int.reduceToNat, Int.reduceLT, Int.reduceLE, Int.reduceEq, Nat.reduceLeDiff, Nat.reduceLT, Nat.reduceMul, Nat.reduceAdd, String.reduceEq]
      refine cal_eq (hsub _) ?_
      simp only [go_sem, Nat.reduceEqDiff, Nat.reduceBEq, Int.reduceToNat, Int.reduceLT, Int.reduceLE, Int.reduceEq, Nat.reduceLeDiff, Nat.reduceLT, Nat.reduceMul, Nat.reduceAdd, String.reduceEq, encE_eq]
      refine drn_of ⟨[], [], []⟩ [0, 0, 0, 6, 15, 31] (by kernel_rfl) ?_
      simp only [go_sem, Nat.reduceEqDiff, Nat.reduceBEq, Int.reduceToNat, Int.reduceLT, Int.reduceLE, Int.reduceEq, Nat.reduceLeDiff, Nat.reduceLT, Nat.reduceMul, Nat.reduceAdd, String.reduceEq]
      refine cald_eq (eat_sim _ l X.2 qSemi ha3.1 hl) ?_
      simp only [go_sem, Nat.reduceEqDiff, Nat.reduceBEq, Int.reduceToNat, Int.reduceLT, Int.reduceLE, Int.reduceEq, Nat.reduceLeDiff, Nat.reduceLT, Nat.reduceMul, Nat.reduceAdd, String.reduceEq]
      refine hQ .ret _ ?_; clear hQ Q; refine post_ret _ _ (.tup [.agg (encT (.mk 1 (wordP l (n + 1)).1 [X.1] 0 [] [] (tk l n).p)), ii (eatP l X.2 qSemi)]) ?_ ?_ (DropW.tail0 _ rfl) ⟨?_, rfl⟩
      · simp only [go_sem, Nat.reduceEqDiff, Nat.reduceBEq, Int.reduceToNat, Int.reduceLT, Int.reduceLE, Int.reduceEq, Nat.reduceLeDiff, Nat.reduceLT, Nat.reduceMul, Nat.reduceAdd, String.reduceEq, encT_eq, encE_eq, Stmt.k_mk, Stmt.s_mk, Stmt.x_mk, Stmt.n_mk, Stmt.b_mk, Stmt.e_mk, Stmt.p_mk, encEs, encTs, slE, slT, List.append_nil] <;> rfl
      · simp [IV.np, npL, npT]
      · rw [hgo]
    | false =>
      rw [if_neg (by simp [hB])] at hgo
      simp only [go_sem, Nat.reduceEqDiff, Nat.reduceBEq, Int.reduceToNat, Int.reduceLT, Int.reduceLE, Int.reduceEq, Nat.reduceLeDiff, Nat.reduceLT, Nat.reduceMul, Nat.reduceAdd, String.reduceEq]
      refine cal_eq (is_sim _ l n qIf h2) ?_
      cases hC : isP l n qIf with
      | true =>
        rw [if_pos hC] at hgo
        have hn1 := (isP_lt T hp hC).2
        have hsub := fun m => expr_sim T hsz m (n + 1) 1 depth hn1 hd (by omega) (by omega) (by omega)
        have ha1 := expr_adv1 T (least := 1) (depth := depth) hn1
        generalize expr l (n + 1) 1 depth = X at hgo hsub ha1
        have hb1 := blk _ ha1
        have hsub2 := fun m => ih m X.2 depth ha1.1 hb1.1 hb1.2 hd hd'
        have ha2 := (stmt_adv T f).2.1 X.2 depth ha1.1
        generalize blockF l f X.2 depth = Y at hgo hsub2 ha2
        simp only [go_sem, Nat.reduceEqDiff, Nat.reduceBEq, Int.reduceToNat, Int.reduceLT, Int.reduceLE, Int.reduceEq, Nat.reduceLeDiff, Nat.reduceLT, Nat.reduceMul, Nat.reduceAdd, String.reduceEq, hw]
        refine cal_eq (hsub _) ?_
        simp only [go_sem, Nat.reduceEqDiff, Nat.reduceBEq, Int.reduceToNat, Int.reduceLT, Int.reduceLE, Int.reduceEq, Nat.reduceLeDiff, Nat.reduceLT, Nat.reduceMul, Nat.reduceAdd, String.reduceEq, encE_eq]
        refine cal_eq (hsub2 _) ?_
        simp only [go_sem, Nat.reduceEqDiff, Nat.reduceBEq, Int.reduceToNat, Int.reduceLT, Int.reduceLE, Int.reduceEq, Nat.reduceLeDiff, Nat.reduceLT, Nat.reduceMul, Nat.reduceAdd, String.reduceEq]
        refine cal_eq (is_sim _ l Y.2 qElse ha2.1.2) ?_
        cases hE : isP l Y.2 qElse with
        | true =>
          have hn2 := isP_lt T ha2.1 hE
          rw [if_pos hE] at hgo
          have hb2 := blk (Y.2 + 1) ⟨hn2.2, by have := ha1.trans ha2; unfold adv okA at *; omega⟩
          have hsub3 := fun m => ih m (Y.2 + 1) depth hn2.2 hb2.1 hb2.2 hd hd'
          generalize blockF l f (Y.2 + 1) depth = V at hgo hsub3
          have hw2 : IntKind.i64.wrap (Y.2 + 1) = Y.2 + 1 := wrap_small (by omega) (by have := hn2.2.2; omega)
          simp only [go_sem, Nat.reduceEqDiff, Nat.reduceBEq, Int.reduceToNat, Int.reduceLT, Int.reduceLE, Int.reduceEq, Nat.reduceLeDiff, Nat.reduceLT, Nat.reduceMul, Nat.reduceAdd, String.reduceEq, hw2]
          refine cal_eq (hsub3 _) ?_
          simp only [go_sem, Nat.reduceEqDiff, Nat.reduceBEq, Int.reduceToNat, Int.reduceLT, Int.reduceLE, Int.reduceEq, Nat.reduceLeDiff, Nat.reduceLT, Nat.reduceMul, Nat.reduceAdd, String.reduceEq]
          refine hQ .ret _ ?_; clear hQ Q; refine post_ret _ _ (.tup [.agg (encT (.mk 6 ByteArray.empty [X.1] 0 Y.1 V.1 (tk l n).p)), ii V.2]) ?_ ?_ (DropW.tail0 _ rfl) ⟨?_, rfl⟩
          · simp only [go_sem, Nat.reduceEqDiff, Nat.reduceBEq, Int.reduceToNat, Int.reduceLT, Int.reduceLE, Int.reduceEq, Nat.reduceLeDiff, Nat.reduceLT, Nat.reduceMul, Nat.reduceAdd, String.reduceEq, encT_eq, encE_eq, Stmt.k_mk, Stmt.s_mk, Stmt.x_mk, Stmt.n_mk, Stmt.b_mk, Stmt.e_mk, Stmt.p_mk, encEs, encTs, slE, slT, List.append_nil] <;> rfl
          · simp [IV.np, npL, npT]
          · rw [hgo]
        | false =>
          rw [if_neg (by simp [hE])] at hgo
          simp only [go_sem, Nat.reduceEqDiff, Nat.reduceBEq, Int.reduceToNat, Int.reduceLT, Int.reduceLE, Int.reduceEq, Nat.reduceLeDiff, Nat.reduceLT, Nat.reduceMul, Nat.reduceAdd, String.reduceEq]
          refine hQ .ret _ ?_; clear hQ Q; refine post_ret _ _ (.tup [.agg (encT (.mk 6 ByteArray.empty [X.1] 0 Y.1 [] (tk l n).p)), ii Y.2]) ?_ ?_ (DropW.tail0 _ rfl) ⟨?_, rfl⟩
          · simp only [go_sem, Nat.reduceEqDiff, Nat.reduceBEq, Int.reduceToNat, Int.reduceLT, Int.reduceLE, Int.reduceEq, Nat.reduceLeDiff, Nat.reduceLT, Nat.reduceMul, Nat.reduceAdd, String.reduceEq, encT_eq, encE_eq, Stmt.k_mk, Stmt.s_mk, Stmt.x_mk, Stmt.n_mk, Stmt.b_mk, Stmt.e_mk, Stmt.p_mk, encEs, encTs, slE, slT, List.append_nil] <;> rfl
          · simp [IV.np, npL, npT]
          · rw [hgo]
      | false =>
        rw [if_neg (by simp [hC])] at hgo
        simp only [go_sem, Nat.reduceEqDiff, Nat.reduceBEq, Int.reduceToNat, Int.reduceLT, Int.reduceLE, Int.reduceEq, Nat.reduceLeDiff, Nat.reduceLT, Nat.reduceMul, Nat.reduceAdd, String.reduceEq]
        refine cal_eq (is_sim _ l n qFor h2) ?_
        cases hD : isP l n qFor with
        | true =>
          rw [if_pos hD] at hgo
          have hn1 := (isP_lt T hp hD).2
          have ha1 := wordP_adv T hn1
          have ha2 := eatP_adv T (t := qIn) ha1.1
          have ha3 := eatP_adv T (t := qZero) ha2.1
          have ha4 := eatP_adv T (t := qDots) ha3.1
          have ha5 := numP_adv T ha4.1
          have hb1 := blk _ ((((ha1.trans ha2).trans ha3).trans ha4).trans ha5)
          have hsub2 := fun m => ih m (numP l (eatP l (eatP l (eatP l (wordP l (n + 1)).2 qIn) qZero) qDots)).2 depth ha5.1 hb1.1 hb1.2 hd hd'
          simp only [go_sem, Nat.reduceEqDiff, Nat.reduceBEq, Int.reduceToNat, Int.reduceLT, Int.reduceLE, Int.reduceEq, Nat.reduceLeDiff, Nat.reduceLT, Nat.reduceMul, Nat.reduceAdd, String.reduceEq, hw]
          refine cal_eq (wordP_sim _ l (n + 1) hn1 hl) ?_
          simp only [go_sem, Nat.reduceEqDiff, Nat.reduceBEq, Int.reduceToNat, Int.reduceLT, Int.reduceLE, Int.reduceEq, Nat.reduceLeDiff, Nat.reduceLT, Nat.reduceMul, Nat.reduceAdd, String.reduceEq]
          refine cal_eq (eat_sim _ l _ qIn ha1.1 hl) ?_
          simp only [go_sem, Nat.reduceEqDiff, Nat.reduceBEq, Int.reduceToNat, Int.reduceLT, Int.reduceLE, Int.reduceEq, Nat.reduceLeDiff, Nat.reduceLT, Nat.reduceMul, Nat.reduceAdd, String.reduceEq]
          refine cal_eq (eat_sim _ l _ qZero ha2.1 hl) ?_
          simp only [go_sem, Nat.reduceEqDiff, Nat.reduceBEq, Int.reduceToNat, Int.reduceLT, Int.reduceLE, Int.reduceEq, Nat.reduceLeDiff, Nat.reduceLT, Nat.reduceMul, Nat.reduceAdd, String.reduceEq]
          refine cal_eq (eat_sim _ l _ qDots ha3.1 hl) ?_
          simp only [go_sem, Nat.reduceEqDiff, Nat.reduceBEq, Int.reduceToNat, Int.reduceLT, Int.reduceLE, Int.reduceEq, Nat.reduceLeDiff, Nat.reduceLT, Nat.reduceMul, Nat.reduceAdd, String.reduceEq]
          refine cal_eq (numP_sim _ l _ ha4.1 hl (hsz _)) ?_
          simp only [go_sem, Nat.reduceEqDiff, Nat.reduceBEq, Int.reduceToNat, Int.reduceLT, Int.reduceLE, Int.reduceEq, Nat.reduceLeDiff, Nat.reduceLT, Nat.reduceMul, Nat.reduceAdd, String.reduceEq]
          refine cal_eq (hsub2 _) ?_
          simp only [go_sem, Nat.reduceEqDiff, Nat.reduceBEq, Int.reduceToNat, Int.reduceLT, Int.reduceLE, Int.reduceEq, Nat.reduceLeDiff, Nat.reduceLT, Nat.reduceMul, Nat.reduceAdd, String.reduceEq]
          generalize numP l (eatP l (eatP l (eatP l (wordP l (n + 1)).2 qIn) qZero) qDots) = W at hgo
          refine hQ .ret _ ?_; clear hQ Q; refine post_ret _ _ (.tup [.agg (encT (.mk 7 (wordP l (n + 1)).1 [] W.1 (blockF l f W.2 depth).1 [] (tk l n).p)), ii (blockF l f W.2 depth).2]) ?_ ?_ (DropW.tail0 _ rfl) ⟨?_, rfl⟩
          · simp only [go_sem, Nat.reduceEqDiff, Nat.reduceBEq, Int.reduceToNat, Int.reduceLT, Int.reduceLE, Int.reduceEq, Nat.reduceLeDiff, Nat.reduceLT, Nat.reduceMul, Nat.reduceAdd, String.reduceEq, encT_eq, encE_eq, Stmt.k_mk, Stmt.s_mk, Stmt.x_mk, Stmt.n_mk, Stmt.b_mk, Stmt.e_mk, Stmt.p_mk, encEs, encTs, slE, slT, List.append_nil] <;> rfl
          · simp [IV.np, npL, npT]
          · rw [hgo]
        | false =>
          rw [if_neg (by simp [hD])] at hgo
          simp only [go_sem, Nat.reduceEqDiff, Nat.reduceBEq, Int.reduceToNat, Int.reduceLT, Int.reduceLE, Int.reduceEq, Nat.reduceLeDiff, Nat.reduceLT, Nat.reduceMul, Nat.reduceAdd, String.reduceEq]
          refine drn_of ⟨[], [], []⟩ [0, 0, 2, 7, 15] (by kernel_rfl) ?_
          simp only [go_sem, Nat.reduceEqDiff, Nat.reduceBEq, Int.reduceToNat, Int.reduceLT, Int.reduceLE, Int.reduceEq, Nat.reduceLeDiff, Nat.reduceLT, Nat.reduceMul, Nat.reduceAdd, String.reduceEq]
          refine cald_eq (bad_sim _ n (by omega)) ?_
          simp only [go_sem, Nat.reduceEqDiff, Nat.reduceBEq, Int.reduceToNat, Int.reduceLT, Int.reduceLE, Int.reduceEq, Nat.reduceLeDiff, Nat.reduceLT, Nat.reduceMul, Nat.reduceAdd, String.reduceEq]
          refine hQ .ret _ ?_; clear hQ Q; refine post_ret _ _ (.tup [.agg (encT (.mk 0 ByteArray.empty [] 0 [] [] (tk l n).p)), ii (bad n)]) ?_ ?_ (DropW.tail0 _ rfl) ⟨?_, rfl⟩
          · simp only [go_sem, Nat.reduceEqDiff, Nat.reduceBEq, Int.reduceToNat, Int.reduceLT, Int.reduceLE, Int.reduceEq, Nat.reduceLeDiff, Nat.reduceLT, Nat.reduceMul, Nat.reduceAdd, String.reduceEq, encT_eq, encE_eq, Stmt.k_mk, Stmt.s_mk, Stmt.x_mk, Stmt.n_mk, Stmt.b_mk, Stmt.e_mk, Stmt.p_mk, encEs, encTs, slE, slT, List.append_nil] <;> rfl
          · simp [IV.np, npL, npT]
          · rw [hgo]
set_option maxRecDepth 100000 in
set_option maxHeartbeats 4000000 in
theorem block_step {l : List Tok} (T : Toks l) {f : Nat} (hf5 : f ≤ 5000000) (ih : ∀ g, g ≤ f → SB l g) : BB l (f + 1) := by
  intro m p depth ho hn hen hd hd'
  have hp := ho
  obtain ⟨h1, h2⟩ := ho
  have hl := T.lt
  refine Sim.ofS 48 [.tmp 6, .tmp 7] Try.func93 rfl rfl rfl (by simp) fun wr => ?_
  simp only [go_sem, Nat.reduceEqDiff, Nat.reduceBEq, Int.reduceToNat, Int.reduceLT, Int.reduceLE, Int.reduceEq, Nat.reduceLeDiff, Nat.reduceLT, Nat.reduceMul, Nat.reduceAdd, String.reduceEq]
  refine TS.seq (TS.of [] fun Q hQ => ?_)
  simp only [go_sem, Nat.reduceEqDiff, Nat.reduceBEq, Int.reduceToNat, Int.reduceLT, Int.reduceLE, Int.reduceEq, Nat.reduceLeDiff, Nat.reduceLT, Nat.reduceMul, Nat.reduceAdd, String.reduceEq]
  refine hQ .normal _ ?_; clear hQ Q
  have he := eatP_adv T (t := qLC) hp
  by_cases hc : (decide (12 ≤ depth) && isP l p qLC) = true
  · have hgo : blockF l (f + 1) p depth = ([], bad p) := by rw [blockF, if_pos hc]
    simp only [Bool.and_eq_true, decide_eq_true_eq] at hc
    have := (isP_lt T hp hc.2).1
    refine TS.seq (TS.of [] fun Q hQ => ?_)
    simp only [go_sem, Nat.reduceEqDiff, Nat.reduceBEq, Int.reduceToNat, Int.reduceLT, Int.reduceLE, Int.reduceEq, Nat.reduceLeDiff, Nat.reduceLT, Nat.reduceMul, Nat.reduceAdd, String.reduceEq, hc]
    refine cal_eq (is_sim _ l p qLC h2) ?_
    simp only [go_sem, Nat.reduceEqDiff, Nat.reduceBEq, Int.reduceToNat, Int.reduceLT, Int.reduceLE, Int.reduceEq, Nat.reduceLeDiff, Nat.reduceLT, Nat.reduceMul, Nat.reduceAdd, String.reduceEq, hc]
    refine cal_eq (bad_sim _ p (by omega)) ?_
    simp only [go_sem, Nat.reduceEqDiff, Nat.reduceBEq, Int.reduceToNat, Int.reduceLT, Int.reduceLE, Int.reduceEq, Nat.reduceLeDiff, Nat.reduceLT, Nat.reduceMul, Nat.reduceAdd, String.reduceEq]
    refine hQ .ret _ ?_; exact post_ret _ _ _ rfl rfl (DropW.refl _) ⟨by rw [hgo]; rfl, rfl⟩
  have hgo : blockF l (f + 1) p depth = loopB l f [] (eatP l p qLC) depth := by rw [blockF, if_neg hc]
  rw [hgo]
  generalize htgt : loopB l f [] (eatP l p qLC) depth = tgt
  have hdp : depth < 12 ∨ eatP l p qLC < 0 := by
    by_cases hd12 : depth < 12
    · exact .inl hd12
    · right
      have hi : isP l p qLC = false := by
        cases h : isP l p qLC with
        | false => rfl
        | true => exfalso; apply hc; rw [h]; simp; omega
      unfold eatP bad
      rw [hi]
      by_cases h0 : p < 0
      · simp [h0]
      · simp [h0]; omega
  refine TS.seq (TS.mono (Q := fun e s' => e = .normal ∧ (s'.t 0 = slK l ∧ s'.t 1 = ii p ∧ s'.t 2 = ii depth) ∧ s'.m = m) ?_ ?_)
  · by_cases hd12 : 12 ≤ depth
    · have hi : isP l p qLC = false := by simpa [hd12] using hc
      refine TS.of [] fun Q hQ => ?_
      simp only [go_sem, Nat.reduceEqDiff, Nat.reduceBEq, Int.reduceToNat, Int.reduceLT, Int.reduceLE, Int.reduceEq, Nat.reduceLeDiff, Nat.reduceLT, Nat.reduceMul, Nat.reduceAdd, String.reduceEq, hd12]
      refine cal_eq (is_sim _ l p qLC h2) ?_
      simp only [go_sem, Nat.reduceEqDiff, Nat.reduceBEq, Int.reduceToNat, Int.reduceLT, Int.reduceLE, Int.reduceEq, Nat.reduceLeDiff, Nat.reduceLT, Nat.reduceMul, Nat.reduceAdd, String.reduceEq, hi]
      refine hQ .normal _ ?_; clear hQ Q
      exact ⟨rfl, by simp [upd_apply, argsT], rfl⟩
    · refine TS.of [] fun Q hQ => ?_
      simp only [go_sem, Nat.reduceEqDiff, Nat.reduceBEq, Int.reduceToNat, Int.reduceLT, Int.reduceLE, Int.reduceEq, Nat.reduceLeDiff, Nat.reduceLT, Nat.reduceMul, Nat.reduceAdd, String.reduceEq, hd12]
      refine hQ .normal _ ?_; clear hQ Q
      exact ⟨rfl, by simp [upd_apply, argsT], rfl⟩
  rintro e s1 ⟨rfl, ⟨j0, j1, j2⟩, hm1⟩
  refine TS.seq (TS.of [] fun Q hQ => ?_)
  simp only [go_sem, Nat.reduceEqDiff, Nat.reduceBEq, Int.reduceToNat, Int.reduceLT, Int.reduceLE, Int.reduceEq, Nat.reduceLeDiff, Nat.reduceLT, Nat.reduceMul, Nat.reduceAdd, String.reduceEq, j0, j1, j2, hm1]
  refine cal_eq (eat_sim _ l p qLC hp hl) ?_
  simp only [go_sem, Nat.reduceEqDiff, Nat.reduceBEq, Int.reduceToNat, Int.reduceLT, Int.reduceLE, Int.reduceEq, Nat.reduceLeDiff, Nat.reduceLT, Nat.reduceMul, Nat.reduceAdd, String.reduceEq]
  refine hQ .normal _ ?_; clear hQ Q
  refine TS.seq (TS.of [] fun Q hQ => ?_)
  simp only [go_sem, Nat.reduceEqDiff, Nat.reduceBEq, Int.reduceToNat, Int.reduceLT, Int.reduceLE, Int.reduceEq, Nat.reduceLeDiff, Nat.reduceLT, Nat.reduceMul, Nat.reduceAdd, String.reduceEq]
  refine hQ .normal _ ?_; clear hQ Q
  refine TS.seq (TS.block (TS.loop (α := Nat × List Stmt × Int) (fun x => [(0, slK l), (1, ii x.2.2), (2, ii depth), (8, .sl (accK m.rows.length 104 x.2.1.length) x.2.1.length (encTs x.2.1))]) (fun x => accM m x.2.1.length) (fun x => x.1 ≤ f ∧ okA l x.2.2 ∧ ((x.2.2 < 0 → 1 ≤ x.1) ∧ (0 ≤ x.2.2 → 3 * ((l.length : Int) - x.2.2) + 1 ≤ x.1)) ∧ (depth < 12 ∨ x.2.2 < 0) ∧ x.2.1.length ≤ f - x.1 ∧ loopB l x.1 x.2.1 x.2.2 depth = tgt) (fun x => x.1) (f, [], eatP l p qLC) (by simp) ⟨by simp [Has, upd_apply, j0, j1, j2, accK, encTs], rfl, ⟨Nat.le_refl _, he.1, by dsimp only; unfold adv okA at *; omega, hdp, by simp, htgt⟩⟩ ?_))
  clear htgt
  rintro ⟨g, acc, q⟩ st hH hm ⟨hgf, hq, hge, hdq, hal, hcc⟩
  dsimp only at hH hm hgf hq hge hdq hal hcc
  simp only [Has, List.mem_cons, List.not_mem_nil, or_false, forall_eq_or_imp, forall_eq] at hH; obtain ⟨i0, i1, i2, i8⟩ := hH
  obtain ⟨g, rfl⟩ : ∃ j, g = j + 1 := ⟨g - 1, by unfold okA at hq; omega⟩
  obtain ⟨hq1, hq2⟩ := id hq
  rw [loopB] at hcc
  by_cases hrun : (decide (0 ≤ q) && !isP l q qRC) = true
  · rw [if_pos hrun] at hcc
    simp only [Bool.and_eq_true, Bool.not_eq_true', decide_eq_true_eq] at hrun
    obtain ⟨hq0, hi⟩ := hrun
    have hsub := fun m => ih g (by omega) m q (depth + 1) hq hq0 (by omega) (by omega) (by omega)
    have ha := (stmt_adv T g).1 q (depth + 1) hq hq0
    generalize stmtF l g q (depth + 1) = X at hcc hsub ha
    have hw : IntKind.i64.wrap (depth + 1) = depth + 1 := wrap_small (by omega) (by omega)
    have hlen : (encTs acc).length = acc.length * 7 := encTs_length acc
    have happ := acc_app m 104 acc.length 1 (by decide)
    have hbound : (acc.length + 1) * 112 ≤ 140737488355328 := by omega
    refine TS.of [] fun Q hQ => ?_
    simp only [go_sem, Nat.reduceEqDiff, Nat.reduceBEq, Int.reduceToNat, Int.reduceLT, Int.reduceLE, Int.reduceEq, Nat.reduceLeDiff, Nat.reduceLT, Nat.reduceMul, Nat.reduceAdd, String.reduceEq, i0, i1, i2, i8, hm, hq0]
    refine cal_eq (is_sim _ l q qRC hq2) ?_
    simp only [go_sem, Nat.reduceEqDiff, Nat.reduceBEq, Int.reduceToNat, Int.reduceLT, Int.reduceLE, Int.reduceEq, Nat.reduceLeDiff, Nat.reduceLT, Nat.reduceMul, Nat.reduceAdd, String.reduceEq, hi, i0, i1, i2, i8, hm, hw]
    refine cal_eq (hsub _) ?_
    simp only [go_sem, Nat.reduceEqDiff, Nat.reduceBEq, Int.reduceToNat, Int.reduceLT, Int.reduceLE, Int.reduceEq, Nat.reduceLeDiff, Nat.reduceLT, Nat.reduceMul, Nat.reduceAdd, String.reduceEq, encT_eq, i0, i1, i2, i8, hlen, happ, hbound]
    refine hQ .normal _ ?_; clear hQ Q
    have hl1 : (acc ++ [X.1] : List Stmt).length = acc.length + 1 := by simp
    refine ⟨_, _, (g, acc ++ [X.1], X.2), DropW.acc [_] rfl rfl ?_ ?_, ?_, ⟨by dsimp only; omega, by dsimp only; exact ha.1, by dsimp only; unfold adv okA at *; omega, ?_, by dsimp only; rw [hl1]; omega, hcc⟩, by dsimp only; omega⟩
    · dsimp only; rw [hl1]
    · dsimp only; rw [hl1]; exact accM_len m _ _
    · dsimp only
      rw [hl1]
      simp [upd_apply, i0, i2, encTs_app, encTs, encT_eq X.1, IV.np, np_sh, accK_np, npK, npL_app, npTs, npEs, npL]
    · dsimp only; unfold adv at ha; omega
  · rw [if_neg hrun] at hcc
    have hend := eatP_adv T (t := qRC) hq
    by_cases hq0 : 0 ≤ q
    · have hi : isP l q qRC = true := by simpa [hq0] using hrun
      refine TS.of [] fun Q hQ => ?_
      simp only [go_sem, Nat.reduceEqDiff, Nat.reduceBEq, Int.reduceToNat, Int.reduceLT, Int.reduceLE, Int.reduceEq, Nat.reduceLeDiff, Nat.reduceLT, Nat.reduceMul, Nat.reduceAdd, String.reduceEq, i0, i1, i2, i8, hm, hq0]
      refine cal_eq (is_sim _ l q qRC hq2) ?_
      simp only [go_sem, Nat.reduceEqDiff, Nat.reduceBEq, Int.reduceToNat, Int.reduceLT, Int.reduceLE, Int.reduceEq, Nat.reduceLeDiff, Nat.reduceLT, Nat.reduceMul, Nat.reduceAdd, String.reduceEq, hi, i0, i1, i2, i8, hm]
      refine hQ (.exit 0) _ ?_; clear hQ Q
      refine TS.of [] fun Q hQ => ?_
      simp only [go_sem, Nat.reduceEqDiff, Nat.reduceBEq, Int.reduceToNat, Int.reduceLT, Int.reduceLE, Int.reduceEq, Nat.reduceLeDiff, Nat.reduceLT, Nat.reduceMul, Nat.reduceAdd, String.reduceEq, i0, i1, i2, i8, hm]
      refine cal_eq (eat_sim _ l q qRC hq hl) ?_
      simp only [go_sem, Nat.reduceEqDiff, Nat.reduceBEq, Int.reduceToNat, Int.reduceLT, Int.reduceLE, Int.reduceEq, Nat.reduceLeDiff, Nat.reduceLT, Nat.reduceMul, Nat.reduceAdd, String.reduceEq]
      refine hQ .ret _ ?_; clear hQ Q
      refine post_ret m.objs.length m.rows.length (.tup [slT acc, ii (eatP l q qRC)]) ?_ ?_ ?_ ⟨by rw [← hcc], rfl⟩
      · simp only [go_sem, Nat.reduceEqDiff, Nat.reduceBEq, Int.reduceToNat, Int.reduceLT, Int.reduceLE, Int.reduceEq, Nat.reduceLeDiff, Nat.reduceLT, Nat.reduceMul, Nat.reduceAdd, String.reduceEq]
      · simp [IV.np, npL, SK.np, npTs]
      · exact DropW.rows_ (if acc.length = 0 then [] else [acc.length]) rfl (by unfold accM; dsimp only; split <;> simp)
    · refine TS.of [] fun Q hQ => ?_
      simp only [go_sem, Nat.reduceEqDiff, Nat.reduceBEq, Int.reduceToNat, Int.reduceLT, Int.reduceLE, Int.reduceEq, Nat.reduceLeDiff, Nat.reduceLT, Nat.reduceMul, Nat.reduceAdd, String.reduceEq, i0, i1, i2, i8, hm, hq0]
      refine hQ (.exit 0) _ ?_; clear hQ Q
      refine TS.of [] fun Q hQ => ?_
      simp only [go_sem, Nat.reduceEqDiff, Nat.reduceBEq, Int.reduceToNat, Int.reduceLT, Int.reduceLE, Int.reduceEq, Nat.reduceLeDiff, Nat.reduceLT, Nat.reduceMul, Nat.reduceAdd, String.reduceEq, i0, i1, i2, i8, hm]
      refine cal_eq (eat_sim _ l q qRC hq hl) ?_
      simp only [go_sem, Nat.reduceEqDiff, Nat.reduceBEq, Int.reduceToNat, Int.reduceLT, Int.reduceLE, Int.reduceEq, Nat.reduceLeDiff, Nat.reduceLT, Nat.reduceMul, Nat.reduceAdd, String.reduceEq]
      refine hQ .ret _ ?_; clear hQ Q
      refine post_ret m.objs.length m.rows.length (.tup [slT acc, ii (eatP l q qRC)]) ?_ ?_ ?_ ⟨by rw [← hcc], rfl⟩
      · simp only [go_sem, Nat.reduceEqDiff, Nat.reduceBEq, Int.reduceToNat, Int.reduceLT, Int.reduceLE, Int.reduceEq, Nat.reduceLeDiff, Nat.reduceLT, Nat.reduceMul, Nat.reduceAdd, String.reduceEq]
      · simp [IV.np, npL, SK.np, npTs]
      · exact DropW.rows_ (if acc.length = 0 then [] else [acc.length]) rfl (by unfold accM; dsimp only; split <;> simp)
theorem stmt_all {l : List Tok} (T : Toks l) (hsz : ∀ p, (tk l p).s.size < 900000) : ∀ f, f ≤ 5000000 → (∀ g, g ≤ f → SB l g) ∧ BB l f := by
  have z : SB l 0 ∧ BB l 0 := by
    refine ⟨fun m p depth ho h0 hen => ?_, fun m p depth ho hn hen => ?_⟩ <;> (exfalso; unfold okA at *; omega)
  intro f
  induction f with
  | zero => exact fun _ => ⟨fun g hg => by obtain rfl : g = 0 := by omega
                                           exact z.1, z.2⟩
  | succ f ih =>
    intro hf
    obtain ⟨h1, h2⟩ := ih (by omega)
    refine ⟨fun g hg => ?_, block_step T (by omega) h1⟩
    by_cases e : g = f + 1
    · subst e; exact stmt_step T hsz h2
    · exact h1 g (by omega)
theorem stmt_sim {l : List Tok} (T : Toks l) (hsz : ∀ p, (tk l p).s.size < 900000) (m : Mem) (p : Int) (ho : okA l p) (h0 : 0 ≤ p) : Sim 76 [slK l, ii p, ii 1] m (fun r m' => r = .tup [.agg (encT (stmt l p 1).1), ii (stmt l p 1).2] ∧ m' = m) :=
  (stmt_all T hsz (fuelS l) (by have := T.lt; unfold fuelS; omega)).1 _ (Nat.le_refl _) m p 1 ho h0 (by unfold fuelS okA at *; omega) (by omega) (by omega)
end Go.Proofs.Ytphjldhdnmoolaa.A
/- The walks of some functions over the abstract machine. -/
namespace Go.Proofs.Ytphjldhdnmoolaa.A
open Go
theorem accM_lt {m : Mem} {n : Nat} (h : n ≠ 0) : m.rows.length < (accM m n).rows.length := by unfold accM; dsimp only; rw [if_neg h]; simp
theorem accM_ge {m : Mem} {n : Nat} : m.rows.length ≤ (accM m n).rows.length := by unfold accM; dsimp only; split <;> simp
theorem accK_np2 {r0 n nr : Nat} {e : TypeId} (h : n ≠ 0 → r0 < nr) : (accK r0 e n).np nr = true := by
  unfold accK; split
  · rfl
  · simp only [SK.np, decide_eq_true_eq]; exact h (by assumption)
theorem accM_take (m : Mem) (n : Nat) : (accM m n).rows.take m.rows.length = m.rows := by unfold accM; dsimp only; split <;> simp
abbrev F0 : IV := .sl .full 0 []
abbrev zD : List IV := [ss ByteArray.empty, F0, F0, F0, F0]
abbrev slP (r0 : Nat) (l : List Bytes) : IV := .sl (accK r0 9 l.length) l.length (l.map (IV.v <| .string ·))
abbrev slN (r0 : Nat) (l : List Expr) : IV := .sl (accK r0 99 l.length) l.length (encEs l)
abbrev slB (r0 : Nat) (l : List Stmt) : IV := .sl (accK r0 104 l.length) l.length (encTs l)
theorem slP_app {r0 : Nat} {l : List Bytes} {x : Bytes} : slP r0 (l ++ [x]) = .sl (accK r0 9 (l.length + 1)) (l.length + 1) (l.map (IV.v <| .string ·) ++ [ss x]) := by simp [slP]
theorem slN_app {r0 : Nat} {l : List Expr} {x : Expr} : slN r0 (l ++ [x]) = .sl (accK r0 99 (l.length + 1)) (l.length + 1) (encEs l ++ [ii x.k, ii x.n, ss x.s, slE x.a, ii x.p]) := by simp [slN, encEs_app, encEs, encE_eq]
theorem slB_app {r0 : Nat} {l : List Stmt} {x : Stmt} : slB r0 (l ++ [x]) = .sl (accK r0 104 (l.length + 1)) (l.length + 1) (encTs l ++ [ii x.k, ss x.s, slE x.x, ii x.n, slT x.b, slT x.e, ii x.p]) := by simp [slB, encTs_app, encTs, encT_eq]
theorem accK_0 {r0 : Nat} {e : TypeId} : accK r0 e 0 = .full := rfl
theorem loopP_adv {l : List Tok} (T : Toks l) : ∀ f acc p b, okA l p → okA l (loopP l f acc p b).2
  | 0, _, _, _, _ => okA_neg T
  | f + 1, acc, p, b, ho => by
    rw [loopP]
    have hw := wordP_adv T ho
    split
    · split
      · exact loopP_adv T f _ _ _ (isP_lt T hw.1 (by assumption)).2
      · exact hw.1
    · exact ho
theorem loopN_adv {l : List Tok} (T : Toks l) : ∀ f acc p, okA l p → okA l (loopN l f acc p).2
  | 0, _, _, _ => okA_neg T
  | f + 1, acc, p, ho => by
    rw [loopN]
    split
    · have h1 := expr_adv1 T (least := 1) (depth := 1) (isP_lt T ho (by assumption)).2
      exact loopN_adv T f _ _ (eatP_adv T h1.1).1
    · exact ho
theorem loopD_adv {l : List Tok} (T : Toks l) : ∀ f acc p, okA l p → okA l (loopD l f acc p).2
  | 0, _, _, _ => okA_neg T
  | f + 1, acc, p, ho => by
    rw [loopD]
    split
    · rename_i h
      simp only [Bool.and_eq_true, decide_eq_true_eq] at h
      exact loopD_adv T f _ _ (stmt_adv1 T ho h.1).1
    · exact ho
theorem fuelN {l : List Tok} {p : Int} (ho : okA l p) : 0 ≤ p → (l.length : Int) - p ≤ (l.length + 1 : Nat) := by unfold okA at ho; omega
set_option maxRecDepth 100000 in
set_option maxHeartbeats 4000000 in
theorem defP_sim {l : List Tok} (T : Toks l) (hsz : ∀ p, (tk l p).s.size < 900000) (m : Mem) : Sim 46 [slK l] m (fun r m' => r = .tup [.agg (encD (defP l).1), ii (defP l).2] ∧ m' = m) := by
  have hl := T.lt
  have hl0 := T.pos
  refine Sim.ofS 133 [.cell 2 27, .tmp 3] Try.func46 rfl rfl rfl (by simp) fun wr => ?_
  simp only [go_sem, Nat.reduceEqDiff, Nat.reduceBEq, Int.reduceToNat, Int.reduceLT, Int.reduceLE, Int.reduceEq, Nat.reduceLeDiff, Nat.reduceLT, Nat.reduceMul, Nat.reduceAdd, String.reduceEq]
  have ho0 : okA l 0 := ⟨by omega, by omega⟩
  have ha1 := eatP_adv T (t := qOp) ho0
  have ha2 := wordP_adv T ha1.1
  have ha3 := eatP_adv T (t := qLP) ha2.1
  generalize hname : wordP l (eatP l 0 qOp) = name at ha2 ha3
  refine TS.seq (TS.of [] fun Q hQ => ?_)
  simp only [go_sem, Nat.reduceEqDiff, Nat.reduceBEq, Int.reduceToNat, Int.reduceLT, Int.reduceLE, Int.reduceEq, Nat.reduceLeDiff, Nat.reduceLT, Nat.reduceMul, Nat.reduceAdd, String.reduceEq]
  refine hQ .normal _ ?_; clear hQ Q
  refine TS.seq (TS.of [] fun Q hQ => ?_)
  simp only [go_sem, Nat.reduceEqDiff, Nat.reduceBEq, Int.reduceToNat, Int.reduceLT, Int.reduceLE, Int.reduceEq, Nat.reduceLeDiff, Nat.reduceLT, Nat.reduceMul, Nat.reduceAdd, String.reduceEq]
  refine hQ .normal _ ?_; clear hQ Q
  refine TS.seq (TS.of [] fun Q hQ => ?_)
  simp only [go_sem, Nat.reduceEqDiff, Nat.reduceBEq, Int.reduceToNat, Int.reduceLT, Int.reduceLE, Int.reduceEq, Nat.reduceLeDiff, Nat.reduceLT, Nat.reduceMul, Nat.reduceAdd, String.reduceEq]
  refine cal_eq (eat_sim _ l 0 qOp ho0 hl) ?_
  simp only [go_sem, Nat.reduceEqDiff, Nat.reduceBEq, Int.reduceToNat, Int.reduceLT, Int.reduceLE, Int.reduceEq, Nat.reduceLeDiff, Nat.reduceLT, Nat.reduceMul, Nat.reduceAdd, String.reduceEq]
  refine cal_eq (wordP_sim _ l _ ha1.1 hl) ?_
  simp only [go_sem, Nat.reduceEqDiff, Nat.reduceBEq, Int.reduceToNat, Int.reduceLT, Int.reduceLE, Int.reduceEq, Nat.reduceLeDiff, Nat.reduceLT, Nat.reduceMul, Nat.reduceAdd, String.reduceEq, hname]
  refine hQ .normal _ ?_; clear hQ Q
  refine TS.seq (TS.of [] fun Q hQ => ?_)
  simp only [go_sem, Nat.reduceEqDiff, Nat.reduceBEq, Int.reduceToNat, Int.reduceLT, Int.reduceLE, Int.reduceEq, Nat.reduceLeDiff, Nat.reduceLT, Nat.reduceMul, Nat.reduceAdd, String.reduceEq]
  refine hQ .normal _ ?_; clear hQ Q
  refine TS.seq (TS.of [] fun Q hQ => ?_)
  simp only [go_sem, Nat.reduceEqDiff, Nat.reduceBEq, Int.reduceToNat, Int.reduceLT, Int.reduceLE, Int.reduceEq, Nat.reduceLeDiff, Nat.reduceLT, Nat.reduceMul, Nat.reduceAdd, String.reduceEq]
  refine cal_eq (eat_sim _ l name.2 qLP ha2.1 hl) ?_
  simp only [go_sem, Nat.reduceEqDiff, Nat.reduceBEq, Int.reduceToNat, Int.reduceLT, Int.reduceLE, Int.reduceEq, Nat.reduceLeDiff, Nat.reduceLT, Nat.reduceMul, Nat.reduceAdd, String.reduceEq]
  refine hQ .normal _ ?_; clear hQ Q
  -- the parameters
  generalize hpar : loopP l (l.length + 2) [] (eatP l name.2 qLP) true = par
  have hpo : okA l par.2 := by rw [← hpar]; exact loopP_adv T _ _ _ _ ha3.1
  refine TS.seq (TS.mono (Q := fun e s => e = .normal ∧ (s.t 0 = slK l ∧ s.t 2 = .ptr m.objs.length 0 ∧ s.t 4 = .ptr (m.objs.length + 1) 0 ∧ s.t 6 = ii par.2) ∧ s.m = ⟨m.objs ++ [.cells zD, .cells [ss name.1, slP m.rows.length par.1, F0, F0, F0]], (accM m par.1.length).rows⟩ ∧ par.1.length ≤ 3000000) ?_ ?_)
  · refine TS.seq (TS.of [] fun Q hQ => ?_)
    simp only [go_sem, Nat.reduceEqDiff, Nat.reduceBEq, Int.reduceToNat, Int.reduceLT, Int.reduceLE, Int.reduceEq, Nat.reduceLeDiff, Nat.reduceLT, Nat.reduceMul, Nat.reduceAdd, String.reduceEq]
    refine hQ .normal _ ?_; clear hQ Q
    refine TS.block (TS.loop (α := Nat × List Bytes × Int × Bool) (fun x => [(0, slK l), (2, .ptr m.objs.length 0), (4, .ptr (m.objs.length + 1) 0), (6, ii x.2.2.1), (7, bb x.2.2.2)]) (fun x => ⟨m.objs ++ [.cells zD, .cells [ss name.1, slP m.rows.length x.2.1, F0, F0, F0]], (accM m x.2.1.length).rows⟩) (fun x => x.1 ≤ l.length + 2 ∧ okA l x.2.2.1 ∧ 1 ≤ x.1 ∧ (0 ≤ x.2.2.1 → (l.length : Int) - x.2.2.1 + 1 ≤ x.1) ∧ x.2.1.length + x.1 ≤ l.length + 2 ∧ loopP l x.1 x.2.1 x.2.2.1 x.2.2.2 = par) (fun x => x.1) (l.length + 2, [], eatP l name.2 qLP, true) (by simp) ⟨by simp [Has, upd_apply, argsT], rfl, ⟨Nat.le_refl _, ha3.1, by dsimp only; omega, by dsimp only; intro _; omega, by simp, hpar⟩⟩ ?_)
    rintro ⟨g, acc, q, b⟩ st hH hm ⟨hgf, hq, hg1, hge, hal, hcc⟩
    dsimp only at hH hm hgf hq hg1 hge hal hcc
    simp only [Has, List.mem_cons, List.not_mem_nil, or_false, forall_eq_or_imp, forall_eq] at hH; obtain ⟨i0, i2, i4, i6, i7⟩ := hH
    obtain ⟨g, rfl⟩ : ∃ j, g = j + 1 := ⟨g - 1, by omega⟩
    obtain ⟨hq1, hq2⟩ := id hq
    rw [loopP] at hcc
    have hlen : (acc.map (fun s => (IV.v (.string s)))).length = acc.length := by simp
    have happ := acc_app m 9 acc.length 1 (by decide)
    have hbound : (acc.length + 1) * 16 ≤ 140737488355328 := by omega
    have hw := wordP_adv T hq
    by_cases hrun : (decide (0 ≤ q) && !(b && isP l q qRP)) = true
    · rw [if_pos hrun] at hcc
      simp only [Bool.and_eq_true, decide_eq_true_eq] at hrun
      obtain ⟨hq0, hbi⟩ := hrun
      have hl1 : (acc ++ [(wordP l q).1] : List Bytes).length = acc.length + 1 := by simp
      -- the test
      refine TS.seq (TS.mono (Q := fun e s => e = .normal ∧ (s.t 0 = slK l ∧ s.t 2 = .ptr m.objs.length 0 ∧ s.t 4 = .ptr (m.objs.length + 1) 0 ∧ s.t 6 = ii q ∧ s.t 7 = bb b) ∧ s.m = st.m) ?_ ?_)
      · cases b with
        | false =>
          refine TS.of [] fun Q hQ => ?_
          simp only [go_sem, Nat.reduceEqDiff, Nat.reduceBEq, Int.reduceToNat, Int.reduceLT, Int.reduceLE, Int.reduceEq, Nat.reduceLeDiff, Nat.reduceLT, Nat.reduceMul, Nat.reduceAdd, String.reduceEq, i0, i2, i4, i6, i7, hm, hq0]
          refine hQ .normal _ ?_; clear hQ Q
          exact ⟨rfl, by simp [upd_apply, i0, i2, i4, i6, i7], hm.symm⟩
        | true =>
          have hi : isP l q qRP = false := by simpa using hbi
          refine TS.of [] fun Q hQ => ?_
          simp only [go_sem, Nat.reduceEqDiff, Nat.reduceBEq, Int.reduceToNat, Int.reduceLT, Int.reduceLE, Int.reduceEq, Nat.reduceLeDiff, Nat.reduceLT, Nat.reduceMul, Nat.reduceAdd, String.reduceEq, i0, i2, i4, i6, i7, hm, hq0]
          refine cal_eq (is_sim _ l q qRP hq2) ?_
          simp only [go_sem, Nat.reduceEqDiff, Nat.reduceBEq, Int.reduceToNat, Int.reduceLT, Int.reduceLE, Int.reduceEq, Nat.reduceLeDiff, Nat.reduceLT, Nat.reduceMul, Nat.reduceAdd, String.reduceEq, hi]
          refine hQ .normal _ ?_; clear hQ Q
          exact ⟨rfl, by simp [upd_apply, i0, i2, i4, i6, i7], hm.symm⟩
      rintro e s1 ⟨rfl, ⟨j0, j2, j4, j6, j7⟩, hm1⟩
      rw [hm] at hm1
      refine TS.of [] fun Q hQ => ?_
      simp only [go_sem, Nat.reduceEqDiff, Nat.reduceBEq, Int.reduceToNat, Int.reduceLT, Int.reduceLE, Int.reduceEq, Nat.reduceLeDiff, Nat.reduceLT, Nat.reduceMul, Nat.reduceAdd, String.reduceEq, j0, j2, j4, j6, j7, hm1]
      refine cal_eq (wordP_sim _ l q hq hl) ?_
      simp only [go_sem, Nat.reduceEqDiff, Nat.reduceBEq, Int.reduceToNat, Int.reduceLT, Int.reduceLE, Int.reduceEq, Nat.reduceLeDiff, Nat.reduceLT, Nat.reduceMul, Nat.reduceAdd, String.reduceEq, j0, j2, j4, j6, j7, hlen, happ, hbound]
      refine cal_eq (is_sim _ l (wordP l q).2 qComma hw.1.2) ?_
      cases hcm : isP l (wordP l q).2 qComma with
      | true =>
        rw [if_pos hcm] at hcc
        have hnx := isP_lt T hw.1 hcm
        have hw1 : IntKind.i64.wrap ((wordP l q).2 + 1) = (wordP l q).2 + 1 := wrap_small (by omega) (by have := hw.1.2; omega)
        simp only [go_sem, Nat.reduceEqDiff, Nat.reduceBEq, Int.reduceToNat, Int.reduceLT, Int.reduceLE, Int.reduceEq, Nat.reduceLeDiff, Nat.reduceLT, Nat.reduceMul, Nat.reduceAdd, String.reduceEq, hw1]
        refine hQ .normal _ ?_; clear hQ Q
        refine ⟨m.objs.length + 2, (accM m (acc.length + 1)).rows.length, (g, acc ++ [(wordP l q).1], (wordP l q).2 + 1, false), ?_, ?_, ⟨by dsimp only; omega, by dsimp only; exact hnx.2, ?_, ?_, by dsimp only; rw [hl1]; omega, hcc⟩, by dsimp only; omega⟩
        · dsimp only; rw [hl1]
          rw [slP_app]
          exact DropW.loc m.objs [.cells zD, .cells [_, _, _, _, _]] [.cells zD, .cells [_, _, _, _, _]] [] _ _ _ (Nat.le_refl _) (by simp [IObj.np, npL, IV.np, np_full, npS, npL_app, accK_np2, accM_lt]) (accM_len m _ _) (by simp)
        · dsimp only; simp [upd_apply, j0, j2, j4, IV.np, npK, np_sh]
        · dsimp only; unfold adv at hw; omega
        · dsimp only; unfold adv at hw; omega
      | false =>
        rw [if_neg (by simp [hcm])] at hcc
        simp only [go_sem, Nat.reduceEqDiff, Nat.reduceBEq, Int.reduceToNat, Int.reduceLT, Int.reduceLE, Int.reduceEq, Nat.reduceLeDiff, Nat.reduceLT, Nat.reduceMul, Nat.reduceAdd, String.reduceEq]
        refine hQ (.exit 0) _ ?_; clear hQ Q
        refine ⟨rfl, ?_, ?_, ?_⟩
        · rw [← hcc]; simp [upd_apply, j0, j2, j4]
        · rw [← hcc]; simp
        · rw [← hcc]; dsimp only; rw [hl1]; omega
    · rw [if_neg hrun] at hcc
      have hle : acc.length ≤ 3000000 := by omega
      by_cases hq0 : 0 ≤ q
      · have hbi : b = true ∧ isP l q qRP = true := by simpa [hq0] using hrun
        obtain ⟨rfl, hi⟩ := hbi
        refine TS.of [] fun Q hQ => ?_
        simp only [go_sem, Nat.reduceEqDiff, Nat.reduceBEq, Int.reduceToNat, Int.reduceLT, Int.reduceLE, Int.reduceEq, Nat.reduceLeDiff, Nat.reduceLT, Nat.reduceMul, Nat.reduceAdd, String.reduceEq, i0, i2, i4, i6, i7, hm, hq0]
        refine cal_eq (is_sim _ l q qRP hq2) ?_
        simp only [go_sem, Nat.reduceEqDiff, Nat.reduceBEq, Int.reduceToNat, Int.reduceLT, Int.reduceLE, Int.reduceEq, Nat.reduceLeDiff, Nat.reduceLT, Nat.reduceMul, Nat.reduceAdd, String.reduceEq, hi]
        refine hQ (.exit 0) _ ?_; clear hQ Q
        refine ⟨rfl, ?_, ?_, ?_⟩
        · rw [← hcc]; simp [upd_apply, i0, i2, i4, i6]
        · rw [← hcc]
        · rw [← hcc]; exact hle
      · refine TS.of [] fun Q hQ => ?_
        simp only [go_sem, Nat.reduceEqDiff, Nat.reduceBEq, Int.reduceToNat, Int.reduceLT, Int.reduceLE, Int.reduceEq, Nat.reduceLeDiff, Nat.reduceLT, Nat.reduceMul, Nat.reduceAdd, String.reduceEq, i0, i2, i4, i6, i7, hm, hq0]
        refine hQ (.exit 0) _ ?_; clear hQ Q
        refine ⟨rfl, ?_, ?_, ?_⟩
        · rw [← hcc]; simp [upd_apply, i0, i2, i4, i6]
        · rw [← hcc]
        · rw [← hcc]; exact hle
  rintro e s2 ⟨rfl, ⟨i0, i2, i4, i6⟩, hm2, hpl⟩
  have hd1 := eatP_adv T (t := qRP) hpo
  have hd2 := eatP_adv T (t := qLC) hd1.1
  refine TS.seq (TS.of [] fun Q hQ => ?_)
  simp only [go_sem, Nat.reduceEqDiff, Nat.reduceBEq, Int.reduceToNat, Int.reduceLT, Int.reduceLE, Int.reduceEq, Nat.reduceLeDiff, Nat.reduceLT, Nat.reduceMul, Nat.reduceAdd, String.reduceEq, i0, i2, i4, i6, hm2]
  refine cal_eq (eat_sim _ l par.2 qRP hpo hl) ?_
  simp only [go_sem, Nat.reduceEqDiff, Nat.reduceBEq, Int.reduceToNat, Int.reduceLT, Int.reduceLE, Int.reduceEq, Nat.reduceLeDiff, Nat.reduceLT, Nat.reduceMul, Nat.reduceAdd, String.reduceEq]
  refine cal_eq (eat_sim _ l _ qLC hd1.1 hl) ?_
  simp only [go_sem, Nat.reduceEqDiff, Nat.reduceBEq, Int.reduceToNat, Int.reduceLT, Int.reduceLE, Int.reduceEq, Nat.reduceLeDiff, Nat.reduceLT, Nat.reduceMul, Nat.reduceAdd, String.reduceEq]
  refine hQ .normal _ ?_; clear hQ Q
  -- the needs
  generalize hnee : loopN l (l.length + 2) [] (eatP l (eatP l par.2 qRP) qLC) = nee
  have hno : okA l nee.2 := by rw [← hnee]; exact loopN_adv T _ _ _ hd2.1
  generalize hm1 : accM m par.1.length = m1
  have hpn : par.1.length ≠ 0 → m.rows.length < m1.rows.length := by rw [← hm1]; exact accM_lt
  have hpn0 : m.rows.length ≤ m1.rows.length := by rw [← hm1]; exact accM_ge
  have hm1o : m1.objs = m.objs := by rw [← hm1]; rfl
  have hm1t : m1.rows.take m.rows.length = m.rows := by rw [← hm1]; exact accM_take _ _
  refine TS.seq (TS.mono (Q := fun e s => e = .normal ∧ (s.t 0 = slK l ∧ s.t 2 = .ptr m.objs.length 0 ∧ s.t 4 = .ptr (m.objs.length + 1) 0 ∧ s.t 6 = ii nee.2) ∧ s.m = ⟨m.objs ++ [.cells zD, .cells [ss name.1, slP m.rows.length par.1, slN m1.rows.length nee.1, F0, F0]], (accM m1 nee.1.length).rows⟩ ∧ nee.1.length ≤ 3000000) ?_ ?_)
  · refine TS.block (TS.loop (α := Nat × List Expr × Int) (fun x => [(0, slK l), (2, .ptr m.objs.length 0), (4, .ptr (m.objs.length + 1) 0), (6, ii x.2.2)]) (fun x => ⟨m.objs ++ [.cells zD, .cells [ss name.1, slP m.rows.length par.1, slN m1.rows.length x.2.1, F0, F0]], (accM m1 x.2.1.length).rows⟩) (fun x => x.1 ≤ l.length + 2 ∧ okA l x.2.2 ∧ 1 ≤ x.1 ∧ (0 ≤ x.2.2 → (l.length : Int) - x.2.2 + 1 ≤ x.1) ∧ x.2.1.length + x.1 ≤ l.length + 2 ∧ loopN l x.1 x.2.1 x.2.2 = nee) (fun x => x.1) (l.length + 2, [], eatP l (eatP l par.2 qRP) qLC) (by simp) ⟨by simp [Has, upd_apply, i0, i2, i4], by rw [← hm1]; rfl, ⟨Nat.le_refl _, hd2.1, by dsimp only; omega, by dsimp only; intro _; omega, by simp, hnee⟩⟩ ?_)
    rintro ⟨g, acc, q⟩ st hH hm ⟨hgf, hq, hg1, hge, hal, hcc⟩
    dsimp only at hH hm hgf hq hg1 hge hal hcc
    simp only [Has, List.mem_cons, List.not_mem_nil, or_false, forall_eq_or_imp, forall_eq] at hH; obtain ⟨j0, j2, j4, j6⟩ := hH
    obtain ⟨g, rfl⟩ : ∃ j, g = j + 1 := ⟨g - 1, by omega⟩
    obtain ⟨hq1, hq2⟩ := id hq
    rw [loopN] at hcc
    have hlen : (encEs acc).length = acc.length * 5 := encEs_length acc
    have happ := acc_app m1 99 acc.length 1 (by decide)
    have hbound : (acc.length + 1) * 64 ≤ 140737488355328 := by omega
    cases hi : isP l q qNeed with
    | true =>
      rw [if_pos hi] at hcc
      have hnx := isP_lt T hq hi
      have hw1 : IntKind.i64.wrap (q + 1) = q + 1 := wrap_small (by omega) (by omega)
      have hsub := fun m => expr_sim T hsz m (q + 1) 1 1 hnx.2 (by omega) (by omega) (by omega) (by omega)
      have ha := expr_adv1 T (least := 1) (depth := 1) hnx.2
      generalize expr l (q + 1) 1 1 = X at hcc hsub ha
      have hb := eatP_adv T (t := qSemi) ha.1
      refine TS.of [] fun Q hQ => ?_
      simp only [go_sem, Nat.reduceEqDiff, Nat.reduceBEq, Int.reduceToNat, Int.reduceLT, Int.reduceLE, Int.reduceEq, Nat.reduceLeDiff, Nat.reduceLT, Nat.reduceMul, Nat.reduceAdd, String.reduceEq, j0, j2, j4, j6, hm]
      refine cal_eq (is_sim _ l q qNeed hq2) ?_
      simp only [go_sem, Nat.reduceEqDiff, Nat.reduceBEq, Int.reduceToNat, Int.reduceLT, Int.reduceLE, Int.reduceEq, Nat.reduceLeDiff, Nat.reduceLT, Nat.reduceMul, Nat.reduceAdd, String.reduceEq, hi, j0, j2, j4, j6, hw1]
      refine cal_eq (hsub _) ?_
      simp only [go_sem, Nat.reduceEqDiff, Nat.reduceBEq, Int.reduceToNat, Int.reduceLT, Int.reduceLE, Int.reduceEq, Nat.reduceLeDiff, Nat.reduceLT, Nat.reduceMul, Nat.reduceAdd, String.reduceEq, encE_eq, j0, j2, j4, j6, hlen, happ, hbound]
      refine cal_eq (eat_sim _ l X.2 qSemi ha.1 hl) ?_
      simp only [go_sem, Nat.reduceEqDiff, Nat.reduceBEq, Int.reduceToNat, Int.reduceLT, Int.reduceLE, Int.reduceEq, Nat.reduceLeDiff, Nat.reduceLT, Nat.reduceMul, Nat.reduceAdd, String.reduceEq]
      refine hQ .normal _ ?_; clear hQ Q
      have hl1 : (acc ++ [X.1] : List Expr).length = acc.length + 1 := by simp
      refine ⟨m.objs.length + 2, (accM m1 (acc.length + 1)).rows.length, (g, acc ++ [X.1], eatP l X.2 qSemi), ?_, ?_, ⟨by dsimp only; omega, by dsimp only; exact hb.1, ?_, ?_, by dsimp only; rw [hl1]; omega, hcc⟩, by dsimp only; omega⟩
      · dsimp only; rw [hl1]
        rw [slN_app]
        have hg1 := accM_ge (m := m1) (n := acc.length + 1)
        have hP : (accK m.rows.length 9 par.1.length).np (accM m1 (acc.length + 1)).rows.length = true := accK_np2 (fun h => Nat.lt_of_lt_of_le (hpn h) hg1)
        exact DropW.loc m.objs [.cells zD, .cells [_, _, _, _, _]] [.cells zD, .cells [_, _, _, _, _]] [_] _ _ _ (Nat.le_refl _) (by simp [IObj.np, npL, IV.np, np_full, np_sh, npS, npEs, npL_app, accK_np2, accM_lt, hP]) (accM_len m1 _ _) (by simp)
      · dsimp only; simp [upd_apply, j0, j2, j4, IV.np, npK, np_sh]
      · dsimp only; unfold adv at ha hb; omega
      · dsimp only; unfold adv at ha hb; omega
    | false =>
      rw [if_neg (by simp [hi])] at hcc
      refine TS.of [] fun Q hQ => ?_
      simp only [go_sem, Nat.reduceEqDiff, Nat.reduceBEq, Int.reduceToNat, Int.reduceLT, Int.reduceLE, Int.reduceEq, Nat.reduceLeDiff, Nat.reduceLT, Nat.reduceMul, Nat.reduceAdd, String.reduceEq, j0, j2, j4, j6, hm]
      refine cal_eq (is_sim _ l q qNeed hq2) ?_
      simp only [go_sem, Nat.reduceEqDiff, Nat.reduceBEq, Int.reduceToNat, Int.reduceLT, Int.reduceLE, Int.reduceEq, Nat.reduceLeDiff, Nat.reduceLT, Nat.reduceMul, Nat.reduceAdd, String.reduceEq, hi]
      refine hQ (.exit 2) _ ?_; clear hQ Q
      refine ⟨rfl, ?_, ?_, ?_⟩
      · rw [← hcc]; simp [upd_apply, j0, j2, j4, j6]
      · rw [← hcc]
      · rw [← hcc]; dsimp only; omega
  rintro e s3 ⟨rfl, ⟨j0, j2, j4, j6⟩, hm3, hnl⟩
  clear i0 i2 i4 i6 hm2
  -- the body
  generalize hbod : loopD l (l.length + 2) [] nee.2 = bod
  have hbo : okA l bod.2 := by rw [← hbod]; exact loopD_adv T _ _ _ hno
  generalize hm2e : accM m1 nee.1.length = m2
  have hnn : nee.1.length ≠ 0 → m1.rows.length < m2.rows.length := by rw [← hm2e]; exact accM_lt
  have hnn0 : m1.rows.length ≤ m2.rows.length := by rw [← hm2e]; exact accM_ge
  have hm2t : m2.rows.take m1.rows.length = m1.rows := by rw [← hm2e]; exact accM_take _ _
  rw [hm2e] at hm3
  refine TS.seq (TS.mono (Q := fun e s => e = .normal ∧ (s.t 0 = slK l ∧ s.t 2 = .ptr m.objs.length 0 ∧ s.t 4 = .ptr (m.objs.length + 1) 0 ∧ s.t 6 = ii bod.2) ∧ s.m = ⟨m.objs ++ [.cells zD, .cells [ss name.1, slP m.rows.length par.1, slN m1.rows.length nee.1, slB m2.rows.length bod.1, F0]], (accM m2 bod.1.length).rows⟩ ∧ bod.1.length ≤ 3000000) ?_ ?_)
  · refine TS.block (TS.loop (α := Nat × List Stmt × Int) (fun x => [(0, slK l), (2, .ptr m.objs.length 0), (4, .ptr (m.objs.length + 1) 0), (6, ii x.2.2)]) (fun x => ⟨m.objs ++ [.cells zD, .cells [ss name.1, slP m.rows.length par.1, slN m1.rows.length nee.1, slB m2.rows.length x.2.1, F0]], (accM m2 x.2.1.length).rows⟩) (fun x => x.1 ≤ l.length + 2 ∧ okA l x.2.2 ∧ 1 ≤ x.1 ∧ (0 ≤ x.2.2 → (l.length : Int) - x.2.2 + 1 ≤ x.1) ∧ x.2.1.length + x.1 ≤ l.length + 2 ∧ loopD l x.1 x.2.1 x.2.2 = bod) (fun x => x.1) (l.length + 2, [], nee.2) (by simp) ⟨by simp [Has, j0, j2, j4, j6], by rw [hm3]; rfl, ⟨Nat.le_refl _, hno, by dsimp only; omega, by dsimp only; intro _; omega, by simp, hbod⟩⟩ ?_)
    rintro ⟨g, acc, q⟩ st hH hm ⟨hgf, hq, hg1, hge, hal, hcc⟩
    dsimp only at hH hm hgf hq hg1 hge hal hcc
    simp only [Has, List.mem_cons, List.not_mem_nil, or_false, forall_eq_or_imp, forall_eq] at hH; obtain ⟨k0, k2, k4, k6⟩ := hH
    obtain ⟨g, rfl⟩ : ∃ j, g = j + 1 := ⟨g - 1, by omega⟩
    obtain ⟨hq1, hq2⟩ := id hq
    rw [loopD] at hcc
    have hlen : (encTs acc).length = acc.length * 7 := encTs_length acc
    have happ := acc_app m2 104 acc.length 1 (by decide)
    have hbound : (acc.length + 1) * 112 ≤ 140737488355328 := by omega
    by_cases hrun : (decide (0 ≤ q) && (!isP l q qGive && !isP l q qRC)) = true
    · rw [if_pos hrun] at hcc
      simp only [Bool.and_eq_true, Bool.not_eq_true', decide_eq_true_eq] at hrun
      obtain ⟨hq0, hi, hi2⟩ := hrun
      have hsub := fun m => stmt_sim T hsz m q hq hq0
      have ha := stmt_adv1 T (depth := 1) hq hq0
      generalize stmt l q 1 = X at hcc hsub ha
      refine TS.of [] fun Q hQ => ?_
      simp only [go_sem, Nat.reduceEqDiff, Nat.reduceBEq, Int.reduceToNat, Int.reduceLT, Int.reduceLE, Int.reduceEq, Nat.reduceLeDiff, Nat.reduceLT, Nat.reduceMul, Nat.reduceAdd, String.reduceEq, k0, k2, k4, k6, hm, hq0]
      refine cal_eq (is_sim _ l q qGive hq2) ?_
      simp only [go_sem, Nat.reduceEqDiff, Nat.reduceBEq, Int.reduceToNat, Int.reduceLT, Int.reduceLE, Int.reduceEq, Nat.reduceLeDiff, Nat.reduceLT, Nat.reduceMul, Nat.reduceAdd, String.reduceEq, hi, k0, k2, k4, k6]
      refine cal_eq (is_sim _ l q qRC hq2) ?_
      simp only [go_sem, Nat.reduceEqDiff, Nat.reduceBEq, Int.reduceToNat, Int.reduceLT, Int.reduceLE, Int.reduceEq, Nat.reduceLeDiff, Nat.reduceLT, Nat.reduceMul, Nat.reduceAdd, String.reduceEq, hi2, k0, k2, k4, k6]
      refine cal_eq (hsub _) ?_
      simp only [go_sem, Nat.reduceEqDiff, Nat.reduceBEq, Int.reduceToNat, Int.reduceLT, Int.reduceLE, Int.reduceEq, Nat.reduceLeDiff, Nat.reduceLT, Nat.reduceMul, Nat.reduceAdd, String.reduceEq, encT_eq, k0, k2, k4, k6, hlen, happ, hbound]
      refine hQ .normal _ ?_; clear hQ Q
      have hl1 : (acc ++ [X.1] : List Stmt).length = acc.length + 1 := by simp
      refine ⟨m.objs.length + 2, (accM m2 (acc.length + 1)).rows.length, (g, acc ++ [X.1], X.2), ?_, ?_, ⟨by dsimp only; omega, by dsimp only; exact ha.1, ?_, ?_, by dsimp only; rw [hl1]; omega, hcc⟩, by dsimp only; omega⟩
      · dsimp only; rw [hl1, slB_app]
        have hg1 := accM_ge (m := m2) (n := acc.length + 1)
        have hP : (accK m.rows.length 9 par.1.length).np (accM m2 (acc.length + 1)).rows.length = true := accK_np2 (fun h => Nat.lt_of_lt_of_le (hpn h) (Nat.le_trans hnn0 hg1))
        have hN : (accK m1.rows.length 99 nee.1.length).np (accM m2 (acc.length + 1)).rows.length = true := accK_np2 (fun h => Nat.lt_of_lt_of_le (hnn h) hg1)
        exact DropW.loc m.objs [.cells zD, .cells [_, _, _, _, _]] [.cells zD, .cells [_, _, _, _, _]] [_] _ _ _ (Nat.le_refl _) (by simp [IObj.np, npL, IV.np, np_full, np_sh, npS, npEs, npTs, npL_app, accK_np2, accM_lt, hP, hN]) (accM_len m2 _ _) (by simp)
      · dsimp only; simp [upd_apply, k0, k2, k4, IV.np, npK, np_sh]
      · dsimp only; unfold adv at ha; omega
      · dsimp only; unfold adv at ha; omega
    · rw [if_neg hrun] at hcc
      by_cases hq0 : 0 ≤ q
      · refine TS.of [] fun Q hQ => ?_
        simp only [go_sem, Nat.reduceEqDiff, Nat.reduceBEq, Int.reduceToNat, Int.reduceLT, Int.reduceLE, Int.reduceEq, Nat.reduceLeDiff, Nat.reduceLT, Nat.reduceMul, Nat.reduceAdd, String.reduceEq, k0, k2, k4, k6, hm, hq0]
        refine cal_eq (is_sim _ l q qGive hq2) ?_
        cases hi : isP l q qGive with
        | true =>
          simp only [go_sem, Nat.reduceEqDiff, Nat.reduceBEq, Int.reduceToNat, Int.reduceLT, Int.reduceLE, Int.reduceEq, Nat.reduceLeDiff, Nat.reduceLT, Nat.reduceMul, Nat.reduceAdd, String.reduceEq]
          refine hQ (.exit 4) _ ?_; clear hQ Q
          refine ⟨rfl, ?_, ?_, ?_⟩
          · rw [← hcc]; simp [upd_apply, k0, k2, k4, k6]
          · rw [← hcc]
          · rw [← hcc]; dsimp only; omega
        | false =>
          have hi2 : isP l q qRC = true := by simpa [hq0, hi] using hrun
          simp only [go_sem, Nat.reduceEqDiff, Nat.reduceBEq, Int.reduceToNat, Int.reduceLT, Int.reduceLE, Int.reduceEq, Nat.reduceLeDiff, Nat.reduceLT, Nat.reduceMul, Nat.reduceAdd, String.reduceEq, k0, k2, k4, k6]
          refine cal_eq (is_sim _ l q qRC hq2) ?_
          simp only [go_sem, Nat.reduceEqDiff, Nat.reduceBEq, Int.reduceToNat, Int.reduceLT, Int.reduceLE, Int.reduceEq, Nat.reduceLeDiff, Nat.reduceLT, Nat.reduceMul, Nat.reduceAdd, String.reduceEq, hi2]
          refine hQ (.exit 4) _ ?_; clear hQ Q
          refine ⟨rfl, ?_, ?_, ?_⟩
          · rw [← hcc]; simp [upd_apply, k0, k2, k4, k6]
          · rw [← hcc]
          · rw [← hcc]; dsimp only; omega
      · refine TS.of [] fun Q hQ => ?_
        simp only [go_sem, Nat.reduceEqDiff, Nat.reduceBEq, Int.reduceToNat, Int.reduceLT, Int.reduceLE, Int.reduceEq, Nat.reduceLeDiff, Nat.reduceLT, Nat.reduceMul, Nat.reduceAdd, String.reduceEq, k0, k2, k4, k6, hm, hq0]
        refine hQ (.exit 4) _ ?_; clear hQ Q
        refine ⟨rfl, ?_, ?_, ?_⟩
        · rw [← hcc]; simp [upd_apply, k0, k2, k4, k6]
        · rw [← hcc]
        · rw [← hcc]; dsimp only; omega
  rintro e s4 ⟨rfl, ⟨k0, k2, k4, k6⟩, hm4, hbl⟩
  clear j0 j2 j4 j6 hm3
  generalize hm3e : accM m2 bod.1.length = m3 at hm4
  have hm3t : m3.rows.take m2.rows.length = m2.rows := by rw [← hm3e]; exact accM_take _ _
  have hge3 : m2.rows.length ≤ m3.rows.length := by rw [← hm3e]; exact accM_ge
  have htake : ∀ r, (m3.rows ++ r).take m.rows.length = m.rows := by
    intro r
    rw [List.take_append_of_le_length (by omega)]
    have e : m.rows = m3.rows.take m.rows.length := by
      conv => lhs; rw [← hm1t, ← hm2t, ← hm3t, List.take_take, List.take_take]
      congr 1; omega
    exact e.symm
  have hgo : defP l = defP l := rfl
  conv at hgo => rhs; unfold defP
  dsimp only at hgo
  rw [hname, hpar, hnee, hbod] at hgo
  refine TS.of [] fun Q hQ => ?_
  simp only [go_sem, Nat.reduceEqDiff, Nat.reduceBEq, Int.reduceToNat, Int.reduceLT, Int.reduceLE, Int.reduceEq, Nat.reduceLeDiff, Nat.reduceLT, Nat.reduceMul, Nat.reduceAdd, String.reduceEq, k0, k2, k4, k6, hm4]
  refine cal_eq (is_sim _ l bod.2 qGive hbo.2) ?_
  cases hi : isP l bod.2 qGive with
  | true =>
    rw [if_pos hi] at hgo
    have hnx := isP_lt T hbo hi
    have hw1 : IntKind.i64.wrap (bod.2 + 1) = bod.2 + 1 := wrap_small (by omega) (by have := hbo.2; omega)
    have hsub := fun m => expr_sim T hsz m (bod.2 + 1) 1 1 hnx.2 (by omega) (by omega) (by omega) (by omega)
    have ha := expr_adv1 T (least := 1) (depth := 1) hnx.2
    generalize expr l (bod.2 + 1) 1 1 = X at hgo hsub ha
    have hb := eatP_adv T (t := qSemi) ha.1
    simp only [go_sem, Nat.reduceEqDiff, Nat.reduceBEq, Int.reduceToNat, Int.reduceLT, Int.reduceLE, Int.reduceEq, Nat.reduceLeDiff, Nat.reduceLT, Nat.reduceMul, Nat.reduceAdd, String.reduceEq, k0, k2, k4, k6, hw1]
    refine cal_eq (hsub _) ?_
    simp only [go_sem, Nat.reduceEqDiff, Nat.reduceBEq, Int.reduceToNat, Int.reduceLT, Int.reduceLE, Int.reduceEq, Nat.reduceLeDiff, Nat.reduceLT, Nat.reduceMul, Nat.reduceAdd, String.reduceEq, encE_eq, k0, k2, k4, k6, app]
    refine cal_eq (eat_sim _ l X.2 qSemi ha.1 hl) ?_
    simp only [go_sem, Nat.reduceEqDiff, Nat.reduceBEq, Int.reduceToNat, Int.reduceLT, Int.reduceLE, Int.reduceEq, Nat.reduceLeDiff, Nat.reduceLT, Nat.reduceMul, Nat.reduceAdd, String.reduceEq, k0, k2, k4, k6]
    refine drn_of ⟨[], [], []⟩ [0, 0, 0, 6, 15, 31] (by kernel_rfl) ?_
    simp only [go_sem, Nat.reduceEqDiff, Nat.reduceBEq, Int.reduceToNat, Int.reduceLT, Int.reduceLE, Int.reduceEq, Nat.reduceLeDiff, Nat.reduceLT, Nat.reduceMul, Nat.reduceAdd, String.reduceEq, k0, k2, k4, k6]
    refine cald_eq (eat_sim _ l _ qRC hb.1 hl) ?_
    simp only [go_sem, Nat.reduceEqDiff, Nat.reduceBEq, Int.reduceToNat, Int.reduceLT, Int.reduceLE, Int.reduceEq, Nat.reduceLeDiff, Nat.reduceLT, Nat.reduceMul, Nat.reduceAdd, String.reduceEq, k0, k2, k4, k6]
    refine hQ .ret _ ?_; clear hQ Q
    refine post_ret m.objs.length m.rows.length (.tup [.agg (encD ⟨name.1, par.1, nee.1, bod.1, [X.1]⟩), ii (eatP l (eatP l X.2 qSemi) qRC)]) ?_ ?_ ?_ ⟨by rw [hgo], rfl⟩
    · simp only [go_sem, Nat.reduceEqDiff, Nat.reduceBEq, Int.reduceToNat, Int.reduceLT, Int.reduceLE, Int.reduceEq, Nat.reduceLeDiff, Nat.reduceLT, Nat.reduceMul, Nat.reduceAdd, String.reduceEq, k0, k2, k4, k6, encEs, encE_eq, encD, slS, slT, slE, List.append_nil] <;> rfl
    · simp [IV.np, npL, np_sh, npS, npEs, npTs]
    · refine ⟨?_, ?_, Nat.le_refl _, Nat.le_refl _, fun o x hx hlo => .inl ?_⟩
      · simp
      · dsimp only; rw [htake]
      · dsimp only at hx; rw [List.getElem?_append_left hlo] at hx; exact hx
  | false =>
    rw [if_neg (by simp [hi])] at hgo
    simp only [go_sem, Nat.reduceEqDiff, Nat.reduceBEq, Int.reduceToNat, Int.reduceLT, Int.reduceLE, Int.reduceEq, Nat.reduceLeDiff, Nat.reduceLT, Nat.reduceMul, Nat.reduceAdd, String.reduceEq, k0, k2, k4, k6]
    refine drn_of ⟨[], [], []⟩ [0, 0, 0, 6, 15, 31] (by kernel_rfl) ?_
    simp only [go_sem, Nat.reduceEqDiff, Nat.reduceBEq, Int.reduceToNat, Int.reduceLT, Int.reduceLE, Int.reduceEq, Nat.reduceLeDiff, Nat.reduceLT, Nat.reduceMul, Nat.reduceAdd, String.reduceEq, k0, k2, k4, k6]
    refine cald_eq (eat_sim _ l _ qRC hbo hl) ?_
    simp only [go_sem, Nat.reduceEqDiff, Nat.reduceBEq, Int.reduceToNat, Int.reduceLT, Int.reduceLE, Int.reduceEq, Nat.reduceLeDiff, Nat.reduceLT, Nat.reduceMul, Nat.reduceAdd, String.reduceEq, k0, k2, k4, k6]
    refine hQ .ret _ ?_; clear hQ Q
    refine post_ret m.objs.length m.rows.length (.tup [.agg (encD ⟨name.1, par.1, nee.1, bod.1, []⟩), ii (eatP l bod.2 qRC)]) ?_ ?_ ?_ ⟨by rw [hgo], rfl⟩
    · simp only [go_sem, Nat.reduceEqDiff, Nat.reduceBEq, Int.reduceToNat, Int.reduceLT, Int.reduceLE, Int.reduceEq, Nat.reduceLeDiff, Nat.reduceLT, Nat.reduceMul, Nat.reduceAdd, String.reduceEq, k0, k2, k4, k6, encEs, encE_eq, encD, slS, slT, slE, List.append_nil] <;> rfl
    · simp [IV.np, npL, np_sh, npS, npEs, npTs]
    · refine ⟨?_, ?_, Nat.le_refl _, Nat.le_refl _, fun o x hx hlo => .inl ?_⟩
      · simp
      · dsimp only; have := htake []; rw [List.append_nil] at this; rw [this]
      · dsimp only at hx; rw [List.getElem?_append_left hlo] at hx; exact hx
theorem defP_ok {l : List Tok} (T : Toks l) : okA l (defP l).2 := by
  have ho0 : okA l 0 := ⟨by omega, by have := T.pos; omega⟩
  have ha3 := eatP_adv T (t := qLP) (wordP_adv T (eatP_adv T (t := qOp) ho0).1).1
  have hpo := loopP_adv T (l.length + 2) [] _ true ha3.1
  have hd2 := eatP_adv T (t := qLC) (eatP_adv T (t := qRP) hpo).1
  have hno := loopN_adv T (l.length + 2) [] _ hd2.1
  have hbo := loopD_adv T (l.length + 2) [] _ hno
  unfold defP
  dsimp only
  split
  · rename_i hi
    have ha := expr_adv1 T (least := 1) (depth := 1) (isP_lt T hbo hi).2
    exact (eatP_adv T (eatP_adv T ha.1).1).1
  · exact (eatP_adv T hbo).1
end Go.Proofs.Ytphjldhdnmoolaa.A
/- The walks of some functions over the abstract machine. -/
namespace Go.Proofs.Ytphjldhdnmoolaa.A
open Go
structure TokP (s : Bytes) (l : List Tok) : Prop where
  kind : ∀ t ∈ l, t.k ≠ 4
  size : ∀ t ∈ l, t.s.size ≤ s.size
theorem kindT_ne4 (t : Bytes) (b : Bool) : kindT t b ≠ 4 := by
  unfold kindT; split
  · decide
  · split
    · decide
    · split <;> decide
theorem toksF_ok (s : Bytes) : ∀ (f p : Nat) (acc : List Tok), p ≤ s.size → s.size + 1 ≤ f + p → acc.length ≤ p → TokP s acc → (toksF s f p acc).2.1 = 0 → ∃ l, (toksF s f p acc).1 = l ++ [⟨4, ByteArray.empty, s.size⟩] ∧ l.length ≤ s.size ∧ TokP s l
  | 0, p, acc, hp, hf, _, _, _ => by omega
  | f + 1, p, acc, hp, hf, hl, hP, hc => by
    unfold toksF at hc ⊢
    cases hb : (L s)[p]? with
    | none => rw [hb] at hc; exact ⟨acc, rfl, by omega, hP⟩
    | some b =>
      have hlt : p < s.size := by rw [← L_len]; exact (List.getElem?_eq_some_iff.1 hb).1
      rw [hb] at hc
      dsimp only at hc ⊢
      by_cases h1 : b.toNat = 32 ∨ b.toNat = 9 ∨ b.toNat = 10
      · rw [if_pos h1] at hc ⊢
        exact toksF_ok s f (p + 1) acc (by omega) (by omega) (by omega) hP hc
      · rw [if_neg h1] at hc ⊢
        by_cases h2 : b.toNat = 35
        · rw [if_pos h2] at hc ⊢
          have h3 := nlp_le (s := s) (k := p) hp
          have h4 : p < nlp s p := by
            rw [nlp_step hb, if_neg (by omega)]
            have := (nlp_le (s := s) (k := p + 1) (by omega)).1
            omega
          exact toksF_ok s f _ acc h3.2 (by omega) (by omega) hP hc
        · rw [if_neg h2] at hc ⊢
          have hle := lastE_le (s := s) (a := p) (e := s.size) hp
          generalize lastE s p s.size = e at hc hle ⊢
          by_cases h3 : kindT (s.extract p e) (decide (p < e)) = 0
          · rw [if_pos h3] at hc; exact absurd hc (by simp)
          · rw [if_neg h3] at hc ⊢
            have hpe := kind_ne h3 hle.2
            refine toksF_ok s f e _ hle.2 (by omega) (by simp; omega) ⟨?_, ?_⟩ hc
            · intro t ht
              rcases List.mem_append.1 ht with h | h
              · exact hP.kind t h
              · simp at h; subst h; exact kindT_ne4 _ _
            · intro t ht
              rcases List.mem_append.1 ht with h | h
              · exact hP.size t h
              · simp at h; subst h; dsimp only; rw [ext_size]; omega
theorem tokens_ok {s : Bytes} (h : (tokens s).2.1 = 0) : ∃ l, (tokens s).1 = l ++ [⟨4, ByteArray.empty, s.size⟩] ∧ l.length ≤ 480 ∧ s.size ≤ 480 ∧ TokP s l := by
  unfold tokens at h ⊢
  by_cases hb : 480 < s.size
  · rw [if_pos hb] at h; exact absurd h (by decide)
  · rw [if_neg hb] at h ⊢
    obtain ⟨l, h1, h2, h3⟩ := toksF_ok s (s.size + 1) 0 [] (by omega) (by omega) (by simp) ⟨by simp, by simp⟩ h
    exact ⟨l, h1, by omega, by omega, h3⟩
theorem Toks.of {l : List Tok} {t : Tok} (ht : t.k = 4) (hl : l.length ≤ 480) (hk : ∀ t ∈ l, t.k ≠ 4) : Toks (l ++ [t]) := by
  refine ⟨by simp, by simp; omega, fun p h0 h1 hk4 => ?_⟩
  obtain ⟨n, rfl⟩ := nat_of h0
  simp only [List.length_append, List.length_cons, List.length_nil] at h1 ⊢
  by_cases e : n = l.length
  · exfalso; apply hk4; subst e; unfold tk; simp [ht]
  · omega
theorem tk_size {s : Bytes} {l : List Tok} {t : Tok} (hP : TokP s l) (ht : t.s.size ≤ s.size) (hs : s.size < 900000) (p : Int) : (tk (l ++ [t]) p).s.size < 900000 := by
  unfold tk
  rw [List.getD_eq_getElem?_getD]
  cases h : (l ++ [t])[p.toNat]? with
  | none => simp
  | some x =>
    simp only [Option.getD_some]
    rcases List.mem_append.1 (List.mem_of_getElem? h) with h | h
    · have := hP.size x h; omega
    · simp at h; subst h; omega
set_option maxRecDepth 100000 in
set_option maxHeartbeats 4000000 in
theorem parse_sim (m : Mem) (s : Bytes) (hs : s.size < 900000) : Sim 22 [ss s] m (fun r m' => r = .tup [.agg (encD (parse s).1), ii (parse s).2.1, ii (parse s).2.2] ∧ m' = m) := by
  refine Sim.ofS 48 [.cell 2 27, .tmp 3, .tmp 4] Try.func22 rfl rfl rfl (by simp) fun wr => ?_
  simp only [go_sem, Nat.reduceEqDiff, Nat.reduceBEq, Int.reduceToNat, Int.reduceLT, Int.reduceLE, Int.reduceEq, Nat.reduceLeDiff, Nat.reduceLT, Nat.reduceMul, Nat.reduceAdd, String.reduceEq]
  have hgo : parse s = parse s := rfl
  conv at hgo => rhs; unfold parse
  dsimp only at hgo
  refine TS.of [] fun Q hQ => ?_
  simp only [go_sem, Nat.reduceEqDiff, Nat.reduceBEq, Int.reduceToNat, Int.reduceLT, Int.reduceLE, Int.reduceEq, Nat.reduceLeDiff, Nat.reduceLT, Nat.reduceMul, Nat.reduceAdd, String.reduceEq]
  refine cal_eq (tokens_sim _ s hs) ?_
  by_cases hc : (tokens s).2.1 = 0
  · rw [if_neg (by simp [hc])] at hgo
    obtain ⟨l0, h1, h2, h2', h3⟩ := tokens_ok hc
    have T : Toks (tokens s).1 := by rw [h1]; exact Toks.of rfl h2 h3.kind
    have hsz : ∀ p, (tk (tokens s).1 p).s.size < 900000 := by rw [h1]; exact tk_size h3 (by simp) hs
    have hd := defP_sim T hsz
    have hok := defP_ok T
    generalize (tokens s).1 = l at hgo T hsz hd hok ⊢
    generalize defP l = D at hgo hd hok ⊢
    have hl := T.lt
    obtain ⟨hk1, hk2⟩ := id hok
    simp only [go_sem, Nat.reduceEqDiff, Nat.reduceBEq, Int.reduceToNat, Int.reduceLT, Int.reduceLE, Int.reduceEq, Nat.reduceLeDiff, Nat.reduceLT, Nat.reduceMul, Nat.reduceAdd, String.reduceEq, hc]
    refine cal_eq (hd _) ?_
    simp only [go_sem, Nat.reduceEqDiff, Nat.reduceBEq, Int.reduceToNat, Int.reduceLT, Int.reduceLE, Int.reduceEq, Nat.reduceLeDiff, Nat.reduceLT, Nat.reduceMul, Nat.reduceAdd, String.reduceEq, encD]
    by_cases h0 : 0 ≤ D.2
    · obtain ⟨n, hn⟩ := nat_of h0
      rw [hn] at hk1 hk2 hgo h0 ⊢
      have hlt : n < l.length := by omega
      have hat := encK_at (tk_at hlt)
      have hl3 := encK_lt hlt
      have hnn : ¬ (n : Int) < 0 := by omega
      by_cases h4 : (tk l n).k = 4
      · have hf : fixP l n = n := by simp [fixP, h4]
        rw [hf, if_neg hnn] at hgo
        simp only [go_sem, Nat.reduceEqDiff, Nat.reduceBEq, Int.reduceToNat, Int.reduceLT, Int.reduceLE, Int.reduceEq, Nat.reduceLeDiff, Nat.reduceLT, Nat.reduceMul, Nat.reduceAdd, String.reduceEq, h0, hlt, hat, hl3, h4, hnn]
        refine hQ .ret _ ?_; clear hQ Q; refine post_ret _ _ (.tup [.agg (encD D.1), ii 0, ii 0]) ?_ ?_ (DropW.tail0 _ rfl) ⟨?_, rfl⟩
        · simp only [go_sem, Nat.reduceEqDiff, Nat.reduceBEq, Int.reduceToNat, Int.reduceLT, Int.reduceLE, Int.reduceEq, Nat.reduceLeDiff, Nat.reduceLT, Nat.reduceMul, Nat.reduceAdd, String.reduceEq, encD] <;> rfl
        · simp [IV.np, npL, npE, npS, npEs, npTs, np_sh]
        · rw [hgo]
      · have hf : fixP l n = bad n := by simp [fixP, h4]
        have hbn : bad (n : Int) < 0 := by unfold bad; omega
        have hbb : -1 - bad (n : Int) = n := by unfold bad; omega
        have hwb : IntKind.i64.wrap (-1 - bad (n : Int)) = n := by rw [hbb]; exact wrap_small (by omega) (by omega)
        rw [hf, if_pos hbn, hbb] at hgo
        simp only [go_sem, Nat.reduceEqDiff, Nat.reduceBEq, Int.reduceToNat, Int.reduceLT, Int.reduceLE, Int.reduceEq, Nat.reduceLeDiff, Nat.reduceLT, Nat.reduceMul, Nat.reduceAdd, String.reduceEq, h0, hlt, hat, hl3, h4, hnn]
        refine cal_eq (bad_sim _ n (by omega)) ?_
        simp only [go_sem, Nat.reduceEqDiff, Nat.reduceBEq, Int.reduceToNat, Int.reduceLT, Int.reduceLE, Int.reduceEq, Nat.reduceLeDiff, Nat.reduceLT, Nat.reduceMul, Nat.reduceAdd, String.reduceEq, hbn]
        refine drn_of ⟨[46], [], []⟩ [0, 0, 0, 4, 14, 30, 62, 1, 129, 511] (by kernel_rfl) ?_
        simp only [go_sem, Nat.reduceEqDiff, Nat.reduceBEq, Int.reduceToNat, Int.reduceLT, Int.reduceLE, Int.reduceEq, Nat.reduceLeDiff, Nat.reduceLT, Nat.reduceMul, Nat.reduceAdd, String.reduceEq, hbn, hwb, h0, hlt, hat, hl3]
        refine hQ .ret _ ?_; clear hQ Q; refine post_ret _ _ (.tup [.agg (encD D0), ii 8, ii (tk l n).p]) ?_ ?_ (DropW.tail0 _ rfl) ⟨?_, rfl⟩
        · simp only [go_sem, Nat.reduceEqDiff, Nat.reduceBEq, Int.reduceToNat, Int.reduceLT, Int.reduceLE, Int.reduceEq, Nat.reduceLeDiff, Nat.reduceLT, Nat.reduceMul, Nat.reduceAdd, String.reduceEq, encD] <;> rfl
        · simp [IV.np, npL, npE, npS, npEs, npTs, np_sh]
        · rw [hgo]
    · have hneg : D.2 < 0 := by omega
      have hf : fixP l D.2 = D.2 := by simp [fixP, h0]
      rw [hf, if_pos hneg] at hgo
      obtain ⟨n, hn⟩ := nat_of (p := -1 - D.2) (by omega)
      have hlt : n < l.length := by omega
      have hat := encK_at (tk_at hlt)
      have hl3 := encK_lt hlt
      have hwb : IntKind.i64.wrap (-1 - D.2) = n := by rw [hn]; exact wrap_small (by omega) (by omega)
      have h0' : (0 : Int) ≤ n := by omega
      rw [hn] at hgo
      simp only [go_sem, Nat.reduceEqDiff, Nat.reduceBEq, Int.reduceToNat, Int.reduceLT, Int.reduceLE, Int.reduceEq, Nat.reduceLeDiff, Nat.reduceLT, Nat.reduceMul, Nat.reduceAdd, String.reduceEq, h0, hneg]
      refine drn_of ⟨[46], [], []⟩ [0, 0, 0, 4, 14, 30, 62, 1, 129, 511] (by kernel_rfl) ?_
      simp only [go_sem, Nat.reduceEqDiff, Nat.reduceBEq, Int.reduceToNat, Int.reduceLT, Int.reduceLE, Int.reduceEq, Nat.reduceLeDiff, Nat.reduceLT, Nat.reduceMul, Nat.reduceAdd, String.reduceEq, hneg, hwb, h0', hlt, hat, hl3]
      refine hQ .ret _ ?_; clear hQ Q; refine post_ret _ _ (.tup [.agg (encD D0), ii 8, ii (tk l n).p]) ?_ ?_ (DropW.tail0 _ rfl) ⟨?_, rfl⟩
      · simp only [go_sem, Nat.reduceEqDiff, Nat.reduceBEq, Int.reduceToNat, Int.reduceLT, Int.reduceLE, Int.reduceEq, Nat.reduceLeDiff, Nat.reduceLT, Nat.reduceMul, Nat.reduceAdd, String.reduceEq, encD] <;> rfl
      · simp [IV.np, npL, npE, npS, npEs, npTs, np_sh]
      · rw [hgo]
  · rw [if_pos (by simp [hc])] at hgo
    simp only [go_sem, Nat.reduceEqDiff, Nat.reduceBEq, Int.reduceToNat, Int.reduceLT, Int.reduceLE, Int.reduceEq, Nat.reduceLeDiff, Nat.reduceLT, Nat.reduceMul, Nat.reduceAdd, String.reduceEq, hc]
    refine hQ .ret _ ?_; clear hQ Q; refine post_ret _ _ (.tup [.agg (encD D0), ii (tokens s).2.1, ii (tokens s).2.2]) ?_ ?_ (DropW.tail0 _ rfl) ⟨?_, rfl⟩
    · simp only [go_sem, Nat.reduceEqDiff, Nat.reduceBEq, Int.reduceToNat, Int.reduceLT, Int.reduceLE, Int.reduceEq, Nat.reduceLeDiff, Nat.reduceLT, Nat.reduceMul, Nat.reduceAdd, String.reduceEq, encD] <;> rfl
    · simp [IV.np, npL, npE, npS, npEs, npTs, np_sh]
    · rw [hgo]
end Go.Proofs.Ytphjldhdnmoolaa.A
/- The walks of some functions over the abstract machine. -/
namespace Go.Proofs.Ytphjldhdnmoolaa.A
open Go
/-! maps from names to numbers -/
abbrev Ent := Bytes × Int × Nat
def encN (e : Ent) : MapEntry := ⟨.string e.1, .int .i64 e.2.1, e.2.2⟩
def encM (l : List Ent) : Array MapEntry := (l.map encN).toArray
def fnd (s : Bytes) : List Ent → Nat → Option (Nat × Int)
  | [], _ => none
  | e :: l, i => if s = e.1 then some (i, e.2.1) else fnd s l (i + 1)
def fndV (s : Bytes) (l : List Ent) : Option (Nat × Value) := (fnd s l 0).map fun p => (p.1, .int .i64 p.2)
def getM (s : Bytes) : List Ent → Option Int
  | [] => none
  | e :: l => if s = e.1 then some e.2.1 else getM s l
def repl (s : Bytes) (v : Int) : List Ent → List Ent
  | [] => []
  | e :: l => if s = e.1 then (s, v, e.2.2) :: l else e :: repl s v l
def putM (s : Bytes) (v : Int) (l : List Ent) (c : Nat) : List Ent × Nat := match getM s l with
  | some _ => (repl s v l, c)
  | none => (l ++ [(s, v, c)], c + 1)
def delM (s : Bytes) : List Ent → List Ent
  | [] => []
  | e :: l => if s = e.1 then l else e :: delM s l
theorem fnd_get (s : Bytes) : ∀ (l : List Ent) (i : Nat), (fnd s l i).map (·.2) = getM s l
  | [], i => rfl
  | e :: l, i => by
    unfold fnd getM
    split
    · rfl
    · exact fnd_get s l (i + 1)
theorem fnd_shift (s : Bytes) : ∀ (l : List Ent) (i : Nat), fnd s l (i + 1) = (fnd s l i).map fun p => (p.1 + 1, p.2)
  | [], i => rfl
  | e :: l, i => by
    unfold fnd
    split
    · rfl
    · exact fnd_shift s l (i + 1)
theorem bq (a b : Bytes) : (a == b) = decide (a = b) := by
  rw [Bool.eq_iff_iff]; simp only [decide_eq_true_eq]
  cases a; cases b
  constructor
  · intro h; exact congrArg ByteArray.mk (eq_of_beq (α := Array UInt8) h)
  · intro h; cases h; exact beq_self_eq_true (α := Array UInt8) _
theorem findNow_enc (s : Bytes) : ∀ (l : List Ent) (i : Nat), Instr.findNow .string (.string s) (l.map encN) i = some ((fnd s l i).map fun p => (p.1, .int .i64 p.2))
  | [], i => rfl
  | e :: l, i => by
    unfold fnd
    simp only [List.map_cons, Instr.findNow]
    by_cases h : s = e.1
    · subst h
      rw [show Instr.sameNow .string (.string e.1) (encN e).key = some true by show some (e.1 == e.1) = some true; rw [bq]; simp]
      simp [encN]
    · rw [show Instr.sameNow .string (.string s) (encN e).key = some false by show some (s == e.1) = some false; rw [bq]; simp [h]]
      rw [if_neg h]
      exact findNow_enc s l (i + 1)
theorem mlook_enc (s : Bytes) (l : List Ent) : mlook (encM l) s = some (fndV s l) := findNow_enc s l 0
theorem encM_size (l : List Ent) : (encM l).size = l.length := by simp [encM]
theorem mval_enc (s : Bytes) (l : List Ent) : mval (fndV s l) = .int .i64 ((getM s l).getD 0) := by
  unfold fndV
  rw [← fnd_get s l 0]
  cases fnd s l 0 <;> rfl
theorem some_enc (s : Bytes) (l : List Ent) : (fndV s l).isSome = (getM s l).isSome := by
  unfold fndV
  rw [← fnd_get s l 0]
  cases fnd s l 0 <;> rfl
theorem modify_enc (s : Bytes) (v : Int) : ∀ (l : List Ent) (i : Nat) (x : Int), fnd s l 0 = some (i, x) → (l.map encN).modify i (fun e => { e with key := .string s, val := .int .i64 v }) = (repl s v l).map encN
  | [], i, x, h => by cases h
  | e :: l, i, x, h => by
    unfold fnd at h
    unfold repl
    split at h
    · rename_i hs; cases h; rw [if_pos hs]; rfl
    · rename_i hs
      rw [if_neg hs]
      rw [fnd_shift] at h
      cases hf : fnd s l 0 with
      | none => rw [hf] at h; cases h
      | some p =>
        obtain ⟨j, y⟩ := p
        rw [hf] at h
        cases h
        simp only [List.map_cons, List.modify_succ_cons]
        rw [modify_enc s v l j _ hf]
theorem erase_enc (s : Bytes) : ∀ (l : List Ent) (i : Nat) (x : Int), fnd s l 0 = some (i, x) → (l.map encN).eraseIdx i = (delM s l).map encN
  | [], i, x, h => by cases h
  | e :: l, i, x, h => by
    unfold fnd at h
    unfold delM
    split at h
    · rename_i hs; cases h; rw [if_pos hs]; rfl
    · rename_i hs
      rw [if_neg hs]
      rw [fnd_shift] at h
      cases hf : fnd s l 0 with
      | none => rw [hf] at h; cases h
      | some p =>
        obtain ⟨j, y⟩ := p
        rw [hf] at h
        cases h
        simp only [List.map_cons, List.eraseIdx_cons_succ]
        rw [erase_enc s l j _ hf]
theorem fnd_none {s : Bytes} {l : List Ent} : getM s l = none ↔ fnd s l 0 = none := by
  rw [← fnd_get s l 0]; cases fnd s l 0 <;> simp
theorem mupd_enc (s : Bytes) (v : Int) (l : List Ent) (c : Nat) : mupd (encM l) c s (.int .i64 v) (fndV s l) = (encM (putM s v l c).1, (putM s v l c).2) := by
  unfold fndV putM
  cases hf : fnd s l 0 with
  | none => rw [fnd_none.2 hf]; simp [mupd, encM, encN]
  | some p =>
    obtain ⟨i, x⟩ := p
    have : ∃ y, getM s l = some y := ⟨x, by rw [← fnd_get s l 0, hf]; rfl⟩
    obtain ⟨y, hy⟩ := this
    rw [hy]
    simp only [Option.map_some, mupd, encM]
    rw [← modify_enc s v l i x hf]
    simp
theorem delM_none {s : Bytes} : ∀ {l : List Ent}, getM s l = none → delM s l = l
  | [], h => rfl
  | e :: l, h => by
    unfold getM at h; unfold delM
    split at h
    · cases h
    · rename_i hs; rw [if_neg hs, delM_none h]
theorem mdel_enc (s : Bytes) (l : List Ent) : mdel (encM l) (fndV s l) = encM (delM s l) := by
  unfold fndV
  cases hf : fnd s l 0 with
  | none => rw [delM_none (fnd_none.2 hf)]; rfl
  | some p =>
    obtain ⟨i, x⟩ := p
    simp only [Option.map_some, mdel, encM]
    rw [← erase_enc s l i x hf]
    simp
theorem ment_enc {s : Bytes} {l : List Ent} {c : Nat} (h : getM s l = none) : ment (encM l) c s (fndV s l) = (encM (l ++ [(s, 0, c)]), c + 1) := by
  unfold fndV
  rw [fnd_none.1 h]
  simp [ment, encM, encN]
theorem born_enc {s : Bytes} {l : List Ent} {c : Nat} (h : getM s l = none) : bornAt (encM l) c (fndV s l) = c := by
  unfold fndV
  rw [fnd_none.1 h]
  rfl
theorem estore_enc {s : Bytes} {l : List Ent} {c : Nat} {v : Int} (h : ∀ e ∈ l, e.2.2 < c) : (encM (l ++ [(s, 0, c)])).findIdx? (fun e => decide ((e.born : Int) = c)) = some l.length ∧ ((encM (l ++ [(s, 0, c)])).modify l.length fun e => { e with val := .int .i64 v }) = encM (l ++ [(s, v, c)]) := by
  constructor
  · simp only [encM, List.findIdx?_toArray, List.map_append, List.map_cons, List.map_nil]
    rw [List.findIdx?_append]
    have : (l.map encN).findIdx? (fun e => decide ((e.born : Int) = c)) = none := by
      rw [List.findIdx?_eq_none_iff]
      intro e he
      obtain ⟨x, hx, rfl⟩ := List.mem_map.1 he
      have := h x hx
      show decide (((x.2.2 : Nat) : Int) = (c : Int)) = false
      exact decide_eq_false (by omega)
    rw [this]
    simp [encN]
  · simp only [encM, List.map_append, List.map_cons, List.map_nil]
    have : ∀ (a : List MapEntry) (x : MapEntry) (f : MapEntry → MapEntry), (a ++ [x]).modify a.length f = a ++ [f x] := by
      intro a x f
      induction a with
      | nil => rfl
      | cons y a ih => simp [ih]
    have h2 := this (l.map encN) (encN (s, 0, c)) (fun e => { e with val := .int .i64 v })
    rw [List.length_map] at h2
    simp only [List.modify_toArray]
    rw [h2]
    rfl
end Go.Proofs.Ytphjldhdnmoolaa.A
