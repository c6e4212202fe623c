/- Words of this session's own: make with a capacity of its own; rows that are kept. -/
import Derived.Test.YtbphmpncajfaiaaPyx0
namespace Go.Proofs.Ytbphmpncajfaiaa.K
set_option linter.unusedVariables false
set_option linter.unusedSimpArgs false
open Go.RowKit Go.Proofs.YtbphmpncajfaiaaW.PrintWords Go.Proofs.YtbphmpncajfaiaaW.PrintLast Go.Proofs.YtbphmpncajfaiaaW.PrintMore

section
variable {P : Program} {ops : Array Oper} {rest : List Oper} {o : Oper} {a : Act} {Q : Exit → Act → World → Prop}
variable {α : Type}
/-- make([]T, l, c): l elements z0; there is room for c. -/
theorem R_make_cap (d : Kd α) {w0 W : World} (base e : Nat) (hgd : o.guard = none) {N : Tmp} (hd : o.dst = some N) (t : TypeId) (x y : Operand) (ho : o.op = .makeSlice t x y) (l n : Int) (hx : a.eval x = .int .i64 l) (hy : a.eval y = .int .i64 n)
    (ht : P.underlying t = some (.slice e)) (z : Value) (bytes : Nat) (hinfo : (P.info? e).map (fun i => (i.zero, i.size, i.bytes)) = some (some z, d.sz, bytes)) (hz : z.cells.size = d.sz) (hs0 : 0 < d.sz) (hb0 : 0 < bytes)
    (z0 : α) {ok okp : Nat → Prop} (hzero : d.M W base okp z0 z.cells.toList) (hok : ∀ k, okp k → ok k) (hfresh : ok W.heap.size) (hl0 : 0 ≤ l) (hln : l ≤ n) (hl : n.toNat * bytes ≤ 281474976710656) (HB : Below base w0 W) (hbase : base ≤ W.heap.size)
    (h : ∀ w1, d.R e w1 base ok (.slice (some ⟨W.heap.size, 0, none⟩) l.toNat n.toNat) (List.replicate l.toNat z0) → Below base w0 w1 → W.grownBy w1 none → wpList P ops Q rest (a.put o.dst (.slice (some ⟨W.heap.size, 0, none⟩) l.toNat n.toNat)) w1) : wpList P ops Q (o :: rest) a W := by
  obtain ⟨m, rfl⟩ := Int.eq_ofNat_of_zero_le (Int.le_trans hl0 hln)
  simp only [Int.toNat_natCast] at hl h
  obtain ⟨i0, hi, hzz⟩ := Option.map_eq_some_iff.1 hinfo
  simp only [Prod.mk.injEq] at hzz
  obtain ⟨hz0, hz1, hz2⟩ := hzz
  have hm : m ≤ 281474976710656 := Nat.le_trans (Nat.le_mul_of_pos_right _ hb0) hl
  have hr := run_make (P := P) W t e i0 z ht hi hz0 .i64 .i64 l (m : Int) hl0 (by omega)
    (by
      have h3 : ((i0.bytes * m : Nat) : Int) ≤ 281474976710656 := by rw [hz2, Nat.mul_comm]; omega
      rwa [Int.natCast_mul] at h3) (by omega)
  simp only [Int.toNat_natCast] at hr
  rw [hz1] at hr
  have hrow : d.R e (W.alloc (.cells (madeCells z.cells (m * d.sz)) e)) base ok (.slice (some ⟨W.heap.size, 0, none⟩) m m) (List.replicate m z0) := by
    refine ⟨fun k hk => ?_, (madeCells z.cells (m * d.sz)).toList, ?_, ?_⟩
    · have : W.heap.size = k := by simpa [Value.ownBlock] using hk
      subst this
      exact hfresh
    · have h2 := World.ownsRow_lit (base := base) (e := e) (size := d.sz) W (madeCells z.cells (m * d.sz)) m hbase (by unfold maxLen; omega) (by simp [size_madeCells])
      simpa using h2
    · refine (Kd.reps_made hz hs0 hzero m).imp_ (fun p c hp => d.M_mono (fun k hk => ⟨hok k hk.1, fun he => ?_⟩) (Kd.M_below (d.M_bound hp) (below_alloc (Below.refl _ _) _)))
      have h3 : k = W.heap.size := by simpa [Value.ownBlock] using he
      have := hk.2.2.1
      omega
  have hlm : l.toNat ≤ m := by omega
  refine Kd.event_run hgd (v := .slice (some ⟨W.heap.size, 0, none⟩) l.toNat m) (w1 := W.alloc (.cells (madeCells z.cells (m * d.sz)) e)) (by simp [execOp, ho, hx, hy, hr]) (h _ ?_ (HB.alloc hbase _) (World.grownBy_alloc W _ none))
  have h4 := Kd.R_take hrow (m := l.toNat) (by simpa using hlm)
  rwa [List.take_replicate, Nat.min_eq_left hlm] at h4
end
theorem R_form {α : Type} {d : Kd α} {e n c : Nat} {w : World} {base : Nat} {ok : Nat → Prop} {A : Option Addr} {xs : List α} (h : d.R e w base ok (.slice A n c) xs) (hn : 0 < xs.length) :
    ∃ g, A = some ⟨g, 0, none⟩ ∧ base ≤ g ∧ g < w.heap.size ∧ n = xs.length := by
  obtain ⟨_, inner, ho, _⟩ := h
  rcases ho.2 with ⟨he, h0⟩ | ⟨g, cap, cur, he, hb, hh, _⟩
  · omega
  · injection he with ha hn' _
    subst ha
    exact ⟨g, rfl, hb, (Array.getElem?_eq_some_iff.1 hh).1, hn'⟩
theorem R_put' {α : Type} {enc : α → Value} {h1 : ∀ x, (enc x).oneCell' = true} {e n base g cap : Nat} {W : World} {ok : Nat → Prop} {xs : List α} (h : (Kd.scalar enc h1).R e W base ok (.slice (some ⟨g, 0, none⟩) n cap) xs) (j : Nat) (x : α) :
    (Kd.scalar enc h1).R e (W.setCell ⟨g, j, none⟩ (enc x)) base ok (.slice (some ⟨g, 0, none⟩) n cap) (xs.set j x) := by
  obtain ⟨A, c, he⟩ := Kd.R_slice h
  injection he with ha hn hc
  subst hn
  exact (Kd.R_put h (j : Int) x).1
/-! ### '[]byte("..")' of a constant: the row is marked behind its last cell; its cells read as before -/
section
variable {P : Program} {ops : Array Oper} {rest : List Oper} {o : Oper} {a : Act} {Q : Exit → Act → World → Prop}
theorem freeze_heap (W : World) (g n : Nat) (k : Nat) (hk : k ≠ g) : (W.freeze ⟨g, n, none⟩ 1).heap[k]? = W.heap[k]? := by
  unfold World.freeze
  rw [if_neg (by decide)]
  simp only [Array.getElem?_modify, if_neg (Ne.symm hk)]
theorem freeze_cell (W : World) (g n : Nat) (p : Addr) : (W.freeze ⟨g, n, none⟩ 1).cell? p = W.cell? p := by
  unfold World.freeze World.cell?
  rw [if_neg (by decide)]
  simp only [Array.getElem?_modify]
  by_cases h : g = p.block
  · subst h
    rw [if_pos rfl]
    cases hh : W.heap[p.block]? with
    | none => rfl
    | some ob => cases ob <;> rfl
  · rw [if_neg h]
theorem freeze_grown (W : World) (g n : Nat) : W.grownBy (W.freeze ⟨g, n, none⟩ 1) (some g) :=
  ⟨by unfold World.freeze; rw [if_neg (by decide)], by unfold World.freeze; rw [if_neg (by decide)], by unfold World.freeze; rw [if_neg (by decide)], by unfold World.freeze; rw [if_neg (by decide)]; simp, fun i _ hi => freeze_heap W g n i (fun e => hi (by rw [e]))⟩
theorem mark_event {w0 W : World} (base e t : Nat) (hgd : o.guard = none) {N : Tmp} (hd : o.dst = some N) (x : Operand) (ho : o.op = .convert t t x) {v : Value} (hx : a.eval x = v)
    (ht : P.underlying t = some (.slice e)) (he : P.underlying e = some (.int .u8)) {xs : List Int} {ok : Nat → Prop} (hr : (Kd.int .u8).R e W base ok v xs) (hne : 0 < xs.length) (HB : Below base w0 W) (hbase : base ≤ W.heap.size)
    (h : ∀ w1, (∃ A c, v = .slice A xs.length c ∧ xs.length ≤ c ∧ (Kd.int .u8).C w1 A xs.length xs) → Below base w0 w1 → W.grownBy w1 v.ownBlock → wpList P ops Q rest (a.put o.dst v) w1) : wpList P ops Q (o :: rest) a W := by
  obtain ⟨A, c, rfl, hlc, hC⟩ := Kd.R_reads hr
  obtain ⟨g, rfl, hbg, hgl, _⟩ := R_form hr hne
  obtain ⟨_, inner, hown, _⟩ := hr
  rcases hown.2 with ⟨he', h0⟩ | ⟨g', cap, cur, hv, _, hh, _⟩
  · omega
  injection hv with ha _ _
  injection ha with ha
  injection ha with hg' _ _
  subst hg'
  have hsh : W.shape? g = some (e, cur.size) := by unfold World.shape?; rw [hh]
  have hrun : (convert t t (.slice (some ⟨g, 0, none⟩) xs.length c)).run P W = .ok (.slice (some ⟨g, 0, none⟩) xs.length c) (W.freeze ⟨g, cur.size, none⟩ 1) := by
    simp [convert, run_underlying ht, run_underlying he, markStringish, hsh]
  refine Kd.event_run hgd (v := .slice (some ⟨g, 0, none⟩) xs.length c) (w1 := W.freeze ⟨g, cur.size, none⟩ 1) (by simp [execOp, ho, hx, hrun]) (h _ ⟨_, _, rfl, hlc, ?_⟩ ?_ ?_)
  · refine ⟨hC.1, hC.2.1, fun hn => ?_⟩
    obtain ⟨ad, e1, hc⟩ := hC.2.2 hn
    refine ⟨ad, e1, fun j p hj => ?_⟩
    obtain ⟨cs, h1, h2, h3⟩ := hc j p hj
    exact ⟨cs, h1, h2, fun i u hu => by rw [freeze_cell]; exact h3 i u hu⟩
  · exact pw_below_grown HB (some g) hbase (freeze_grown W g cur.size) (fun k hk => by injection hk with hk; omega)
  · exact freeze_grown W g cur.size
theorem grown_below {W w1 : World} (hg : W.grownBy w1 none) : Below W.heap.size W w1 :=
  ⟨hg.os, hg.tape, hg.output, hg.size, fun k hk => hg.block k hk (by simp)⟩
variable {α : Type}
/-- A literal whose elements lead to whatever memory: a row that is read. -/
theorem C_lit (d : Kd α) {W : World} (e : Nat) (hgd : o.guard = none) {N : Tmp} (_hd : o.dst = some N) {xs : List α} {inner : List Value}
    (hrun : (execOp a.eval o).run P W = .ok (.value (.slice (some ⟨W.heap.size, 0, none⟩) xs.length xs.length)) (W.alloc (.cells inner.toArray e)))
    (hrep : Reps (d.K W) d.sz xs inner) (hm : xs.length ≤ 9223372036854775807)
    (h : ∀ w1 A c, d.C w1 A xs.length xs → xs.length ≤ c → Below W.heap.size W w1 → wpList P ops Q rest (a.put o.dst (.slice A xs.length c)) w1) : wpList P ops Q (o :: rest) a W := by
  have hrep' : Reps (d.K (W.alloc (.cells inner.toArray e))) d.sz xs inner := hrep.imp_ (fun p c hp => d.K_below (below_alloc (Below.refl _ _) _) hp)
  refine Kd.event_run hgd hrun (h _ _ _ ?_ (Nat.le_refl _) (below_alloc (Below.refl _ _) _))
  have h2 := World.ownsRow_lit (base := W.heap.size) (e := e) (size := d.sz) W inner.toArray xs.length (Nat.le_refl _) (by simpa [maxLen] using hm) (by simpa using hrep.1)
  obtain ⟨A, c, he, hr⟩ := own_reads_row (by simpa using h2) hrep' rfl
  injection he with h3 _ _
  subst h3
  exact hr
end
end Go.Proofs.Ytbphmpncajfaiaa.K
