/- For every input PageSets answers true: Set of the one with Diff of both has the other's cells. -/
import Derived.Test.YtbphmpncajfaiaaJBase2
import Derived.BigQuiet
import Derived.Deep.SlicePairs
import Derived.Test.YtbphmpncajfaiaaRows
import Derived.WalkKit
/- Set of Diff: pure; cells compared. -/
namespace Go.Proofs.Ytbphmpncajfaiaa.K
open Go.RowKit Go.Proofs.Ytbphmpncajfaiaa.M Go.Proofs.Ytbphmpncajfaiaa.Py Go.Proofs.YtbphmpncajfaiaaW.PrintWords Go.Proofs.YtbphmpncajfaiaaW.PrintLast Go.Proofs.YtbphmpncajfaiaaW.PrintMore
set_option linter.unusedVariables false
set_option linter.unusedSimpArgs false
theorem gate_op {P : Program} {ops : Array Oper} {rest : List Oper} {o : Oper} {a : Act} {Q : Exit → Act → World → Prop} {W : World} (op : Op) (ho : o.op = op) (h : wpList P ops Q (o :: rest) a W) : wpList P ops Q (o :: rest) a W := h
theorem guard63 (op : BinOp) (x y : Operand) (w : World) (a b : Array Value) : (eqGuard op 63 x y (.agg a) (.agg b)).run Try.prog w = .ok () w := run_eqGuard_agg w op 63 x y a b (by kernel_rfl)
section
variable {ops : Array Oper} {rest : List Oper} {o : Oper} {a : Act} {Q : Exit → Act → World → Prop}
theorem cells_neq {W : World} (hgd : o.guard = none) (x y : Operand) (ho : o.op = .binOp .neq 63 x y 63) (p q : List Int) (hx : a.eval x = .agg (pg p)) (hy : a.eval y = .agg (pg q)) (hp : p.length = 60) (hq : q.length = 60) (b : Bool) (hb : decide (p = q) = b) (h : wpList Try.prog ops Q rest (a.put o.dst (.bool !b)) W) : wpList Try.prog ops Q (o :: rest) a W := by
  refine Kd.event_run hgd (v := .bool !b) (w1 := W) ?_ h
  simp [execOp, ho, hx, hy, Sem.run_bind, guard63, run_neq_struct, run_eq63 9998 _ _ _ hp hq, hb]
end
theorem setOf_append : ∀ (xs ys : List (Int × Int)) (p q : List Int), setOf p xs = (q, none) → setOf p (xs ++ ys) = setOf q ys
  | [], ys, p, q, h => by
    rw [setOf] at h
    injection h with h1 _
    rw [h1]; rfl
  | (i, v) :: xs, ys, p, q, h => by
    rw [setOf] at h
    rw [List.cons_append, setOf]
    by_cases hc : i < 0 ∨ 60 ≤ i
    · rw [if_pos hc] at h; injection h with _ h2; cases h2
    · rw [if_neg hc] at h ⊢
      exact setOf_append xs ys _ q h
/-- The first x cells of one page, the others of the other. -/
def mix (m : Int) (a b : List Int) (x : Nat) : List Int := m :: (List.range 60).map (fun i => if i < x then rd a i else rd b i)
theorem rd_all {l : List Int} (h : l.length = 60) : (List.range 60).map (fun (i : Nat) => rd l (i : Int)) = l := by
  apply List.ext_getElem (by simp [h])
  intro i h1 h2
  rw [List.getElem_map, List.getElem_range, el_rd h2]
theorem mix_zero (m : Int) (a : List Int) {b : List Int} (h : b.length = 60) : mix m a b 0 = m :: b := by
  unfold mix
  congr 1
  refine Eq.trans (List.map_congr_left (fun i _ => ?_)) (rd_all h)
  rw [if_neg (by omega)]
theorem mix_full (m : Int) {a : List Int} (b : List Int) (h : a.length = 60) : mix m a b 60 = m :: a := by
  unfold mix
  congr 1
  refine Eq.trans (List.map_congr_left (fun i hi => ?_)) (rd_all h)
  rw [if_pos (List.mem_range.1 hi)]
theorem mix_step (m : Int) (a b : List Int) (x : Nat) (h : x < 60) : (mix m a b x).set (1 + x) (rd a x) = mix m a b (x + 1) := by
  unfold mix
  rw [show 1 + x = x + 1 by omega, List.set_cons_succ]
  congr 1
  apply List.ext_getElem?
  intro j
  rw [List.getElem?_set]
  simp only [List.length_map, List.length_range, List.getElem?_map]
  by_cases hj : x = j
  · subst hj
    simp [h]
  · rw [if_neg hj]
    by_cases hl : j < 60
    · simp only [List.getElem?_range hl, Option.map_some, Option.some.injEq]
      by_cases h1 : j < x
      · rw [if_pos h1, if_pos (by omega)]
      · rw [if_neg h1, if_neg (by omega)]
    · rw [List.getElem?_eq_none (by simp; omega)]
      rfl
theorem mix_same (m : Int) (a b : List Int) (x : Nat) (h : rd a x = rd b x) : mix m a b x = mix m a b (x + 1) := by
  unfold mix
  congr 1
  refine List.map_congr_left (fun i _ => ?_)
  by_cases h1 : i < x
  · rw [if_pos h1, if_pos (by omega)]
  · by_cases h2 : i = x
    · subst h2
      rw [if_neg h1, if_pos (by omega), h]
    · rw [if_neg h1, if_neg (by omega)]
theorem set_diffs (m : Int) (a b : List Int) (hb : b.length = 60) : ∀ x : Nat, x ≤ 60 → setOf (m :: b) (diffOf a b x) = (mix m a b x, none)
  | 0, _ => by rw [mix_zero m a hb]; rfl
  | x + 1, h => by
    have ih := set_diffs m a b hb x (by omega)
    rw [diff_succ, setOf_append _ _ _ _ ih]
    by_cases hx : rd a x = rd b x
    · rw [if_neg (by simp [hx]), setOf, mix_same m a b x hx]
    · rw [if_pos hx, setOf, if_neg (by omega), setOf, Int.toNat_natCast, mix_step m a b x (by omega)]
theorem set_diff (m n : Int) {a b : List Int} (ha : a.length = 60) (hb : b.length = 60) : setOf (m :: b) (diffP (n :: a) (m :: b)) = (m :: a, none) := by
  unfold diffP
  rw [List.tail_cons, List.tail_cons, set_diffs m a b hb 60 (Nat.le_refl _), mix_full m b ha]
theorem diff_mem {a b : List Int} {x : Nat} {p : Int × Int} (h : p ∈ diffOf a b x) : 0 ≤ p.1 ∧ p.1 < x ∧ p.2 = rd a p.1 ∧ rd b p.1 ≠ p.2 := by
  unfold diffOf at h
  obtain ⟨i, hi, hp⟩ := List.mem_filterMap.1 h
  have hi := List.mem_range.1 hi
  by_cases hc : rd a (i : Int) ≠ rd b (i : Int)
  · rw [if_pos hc] at hp
    injection hp with hp
    subst hp
    exact ⟨by simp, by simpa using hi, rfl, fun e => hc e.symm⟩
  · rw [if_neg hc] at hp
    cases hp
theorem diff_sorted (a b : List Int) : ∀ x : Nat, (diffOf a b x).Pairwise (fun p q => p.1 < q.1)
  | 0 => by simp [diffOf]
  | x + 1 => by
    rw [diff_succ]
    refine List.pairwise_append.2 ⟨diff_sorted a b x, ?_, ?_⟩
    · split <;> simp
    · intro p hp q hq
      have h1 := (diff_mem hp).2.1
      split at hq
      · rw [List.mem_singleton] at hq
        subst hq
        exact h1
      · cases hq
theorem diff_at {p q : List Int} {x : Int} (h0 : 0 ≤ x) (h1 : x < (diffP p q).length) : ∃ i v, (diffP p q).getD x.toNat (0, 0) = (i, v) ∧ 0 ≤ i ∧ i < 60 ∧ rd q.tail i ≠ v ∧ (0 < x → ((diffP p q).getD (x - 1).toNat (0, 0)).1 < i) := by
  have hx : x.toNat < (diffP p q).length := by omega
  have hm := diff_mem (List.getElem_mem hx)
  refine ⟨((diffP p q)[x.toNat]).1, ((diffP p q)[x.toNat]).2, ?_, hm.1, hm.2.1, hm.2.2.2, fun hp => ?_⟩
  · rw [List.getD_eq_getElem?_getD, List.getElem?_eq_getElem hx]; rfl
  · have hs := List.pairwise_iff_getElem.1 (diff_sorted p.tail q.tail 60) (x - 1).toNat x.toNat (by unfold diffP at hx; omega) hx (by omega)
    rw [List.getD_eq_getElem?_getD, List.getElem?_eq_getElem (show (x - 1).toNat < (diffP p q).length by omega)]
    exact hs
theorem rd_cons_succ (m : Int) (l : List Int) {i : Int} (h : 0 ≤ i) : rd (m :: l) (i + 1) = rd l i := by
  unfold rd
  rw [show (i + 1).toNat = i.toNat + 1 by omega]
  rfl
end Go.Proofs.Ytbphmpncajfaiaa.K
/- PageSets (function 13). -/
namespace Go.Proofs.Ytbphmpncajfaiaa.K
open Go.RowKit Go.Proofs.Ytbphmpncajfaiaa.M Go.Proofs.Ytbphmpncajfaiaa.Py Go.Proofs.YtbphmpncajfaiaaW.PrintWords Go.Proofs.YtbphmpncajfaiaaW.PrintLast Go.Proofs.YtbphmpncajfaiaaW.PrintMore
set_option linter.unusedVariables false
set_option linter.unusedSimpArgs false
set_option maxHeartbeats 16000000 in
set_option maxRecDepth 100000 in
theorem sets_many (Aa Ab Ax : Option Addr) (ca cb cx : Nat) (la lb : List Int) (xs : List (Int × Int)) (w : World) (hx : 2000 < xs.length) :
    Calls Try.prog 13 #[.slice Aa la.length ca, .slice Ab lb.length cb, .slice Ax xs.length cx] w fun e w' => e = .returned (.bool true) ∧ Below w.heap.size w w' := by
  have HB := Aside0.mk (Below.refl w.heap.size w)
  have c1 : decide ((xs.length : Int) > 2000) = true := decide_eq_true (by omega)
  clear hx
  go_enter Try.func13, Try.ntmps13
  go_wp2_with ((with_reducible refine gate_callee (f := 35) rfl ?_); (with_reducible refine gate_dst (N := 18) rfl ?_); refine goesL_ (some 18) rfl rfl Try.func35 (by kernel_rfl) rfl #[] rfl (by (try simp only [List.map_toArray, List.map_cons, List.map_nil]); first | done | rfl) ?_; (refine (alive5_calls _).mono ?_); rintro e w_al ⟨rfl, hb_⟩; refine ⟨_, rfl, ?_⟩; replace HB := Aside0.mk (below_step HB.out hb_); clear hb_)
  go_ret
  exact ⟨rfl, HB.out⟩
theorem img_some {w w1 : World} {ad : Addr} {n : Nat} {xs : List (Int × Int)} (h : Kd.C kdI w (some ad) n xs) (hb : Below w.heap.size w w1) (i : Int) (h0 : 0 ≤ i) (h1 : i < n) :
    w1.cell? ((ad.add (i.toNat * 2)).add 0) = some (.int .i64 (xs.getD i.toNat (0, 0)).1) ∧ w1.cell? ((ad.add (i.toNat * 2)).add 1) = some (.int .i64 (xs.getD i.toNat (0, 0)).2) := by
  obtain ⟨ad2, hA, k0, k1⟩ := img_at2 (Kd.C_below h hb) i h0 h1
  injection hA with hA
  subst hA
  exact ⟨k0, k1⟩
set_option maxHeartbeats 16000000 in
set_option maxRecDepth 100000 in
theorem sets_few (Aa Ab Ax : Option Addr) (ca cb cx : Nat) (la lb : List Int) (xs : List (Int × Int)) (w : World) (hA : Kd.C (Kd.int .i64) w Aa la.length la) (hB : Kd.C (Kd.int .i64) w Ab lb.length lb) (hC : Kd.C kdI w Ax xs.length xs) (hca : la.length ≤ ca) (hcb : lb.length ≤ cb) (hcx : xs.length ≤ cx)
    (sa : la.length ≤ 4611686018427387904) (sb : lb.length ≤ 4611686018427387904) (hx : ¬ 2000 < xs.length) :
    Calls Try.prog 13 #[.slice Aa la.length ca, .slice Ab lb.length cb, .slice Ax xs.length cx] w fun e w' => e = .returned (.bool true) ∧ Below w.heap.size w w' := by
  have CA := Aside0.mk hA
  have CBB := Aside0.mk hB
  have CX := Aside0.mk hC
  have LA := Aside0.mk hca
  have LBB := Aside0.mk hcb
  have LX := Aside0.mk hcx
  have SA := Aside0.mk sa
  have SBB := Aside0.mk sb
  have SX := Aside0.mk hx
  have heq := eql49
  have HB := Aside0.mk (Below.refl w.heap.size w)
  have c1 : decide ((xs.length : Int) > 2000) = false := decide_eq_false (by omega)
  obtain ⟨pf, hpf⟩ : ∃ p, p = full 1 la := ⟨_, rfl⟩
  obtain ⟨qf, hqf⟩ : ∃ p, p = full 2 lb := ⟨_, rfl⟩
  obtain ⟨pc, hpc⟩ : ∃ p, p = pf.tail := ⟨_, rfl⟩
  obtain ⟨rf, hrf⟩ : ∃ p, p = 2 :: pc := ⟨_, rfl⟩
  obtain ⟨d, hd⟩ : ∃ d, d = diffP pf qf := ⟨_, rfl⟩
  obtain ⟨nn, hnn⟩ : ∃ q, q = none61 := ⟨_, rfl⟩
  obtain ⟨sp, es, hse⟩ : ∃ s e, setOf pf xs = (s, e) := ⟨_, _, rfl⟩
  have NF1 := Aside0.mk hpf
  have NF2 := Aside0.mk hqf
  have NR := Aside0.mk hrf
  have NN := Aside0.mk hnn
  have ND := Aside0.mk hd
  have S2 := Aside0.mk hse
  have LF1 := Aside0.mk (show pf.length = 61 by rw [hpf]; simp [full])
  have LF2 := Aside0.mk (show qf.length = 61 by rw [hqf]; simp [full])
  have LPC := Aside0.mk (show pc.length = 60 by rw [hpc, List.length_tail, LF1.out])
  have LR := Aside0.mk (show rf.length = 61 by rw [hrf, List.length_cons, LPC.out])
  have LN := Aside0.mk (show nn.length = 61 by rw [hnn]; exact none61_len)
  have LS := Aside0.mk (show sp.length = 61 by have := setOf_len xs pf LF1.out; rw [hse] at this; exact this)
  have ZR := Aside0.mk (show rf[0]? = some 2 by rw [hrf]; rfl)
  have NP := Aside0.mk (show pf = 1 :: pc by rw [hpc, hpf]; rfl)
  have hqs : qf = 2 :: qf.tail := by rw [hqf]; rfl
  have hqt : qf.tail.length = 60 := by rw [List.length_tail, LF2.out]
  have LD := Aside0.mk (show d.length ≤ 60 by rw [hd]; exact diff_len _ _ _)
  have S1 := Aside0.mk (show setOf qf d = (rf, none) by
    rw [hd, hqs, NP.out, hrf]
    exact set_diff 2 1 LPC.out hqt)
  have DA := Aside0.mk (show ∀ x : Int, 0 ≤ x → x < d.length → ∃ i v, d.getD x.toNat (0, 0) = (i, v) ∧ 0 ≤ i ∧ i < 60 ∧ rd qf (i + 1) ≠ v ∧ (0 < x → (d.getD (x - 1).toNat (0, 0)).1 < i) by
    intro x h0 h1
    rw [hd] at h1 ⊢
    obtain ⟨i, v, e1, e2, e3, e4, e5⟩ := diff_at (p := pf) (q := qf) h0 h1
    exact ⟨i, v, e1, e2, e3, by rw [hqs, rd_cons_succ 2 _ e2]; exact e4, e5⟩)
  have e0 : ((2 : Int) != 2) = false := rfl
  clear hA hB hC hca hcb hcx sa sb hx hpf hqf hpc hrf hd hnn hse hqs hqt
  go_enter Try.func13, Try.ntmps13
  go_upto_region 10 with (first | ((with_reducible refine gate_callee (f := 35) rfl ?_); (with_reducible refine gate_dst (N := 18) rfl ?_); (try (refine gate_guard (by rfl) ?_; dsimp only)); refine goesL_ (some 18) rfl rfl Try.func35 (by kernel_rfl) rfl #[] rfl (by (try simp only [List.map_toArray, List.map_cons, List.map_nil]); first | done | rfl) ?_; (refine (alive5_calls _).mono ?_); rintro e w_al ⟨rfl, hb_⟩; refine ⟨_, rfl, ?_⟩; have HB0_ := HB; replace HB := Aside0.mk (below_step HB.out hb_); clear hb_; clear HB0_) | ((with_reducible refine gate_callee (f := 36) rfl ?_); (with_reducible refine gate_dst (N := 24) rfl ?_); (try (refine gate_guard (by rfl) ?_; dsimp only)); refine goesL_ (some 24) rfl rfl Try.func36 (by kernel_rfl) rfl #[.int .i64 (1), .slice Aa la.length ca] rfl (by (try simp only [List.map_toArray, List.map_cons, List.map_nil]); first | done | rfl) ?_; (refine (filled_calls (1) Aa ca la _ ?side1 ?side2 ?side3).mono ?_); (case side1 => exact Kd.C_below CA.out HB.out); (case side2 => exact LA.out); (case side3 => exact SA.out); rintro e w_f1 ⟨rfl, hb_⟩; refine ⟨_, rfl, ?_⟩; have HB0_ := HB; replace HB := Aside0.mk (below_step HB.out hb_); rw [← NF1.out]; clear hb_; clear HB0_) | ((with_reducible refine gate_callee (f := 36) rfl ?_); (with_reducible refine gate_dst (N := 26) rfl ?_); (try (refine gate_guard (by rfl) ?_; dsimp only)); refine goesL_ (some 26) rfl rfl Try.func36 (by kernel_rfl) rfl #[.int .i64 (2), .slice Ab lb.length cb] rfl (by (try simp only [List.map_toArray, List.map_cons, List.map_nil]); first | done | rfl) ?_; (refine (filled_calls (2) Ab cb lb _ ?side1 ?side2 ?side3).mono ?_); (case side1 => exact Kd.C_below CBB.out HB.out); (case side2 => exact LBB.out); (case side3 => exact SBB.out); rintro e w_f2 ⟨rfl, hb_⟩; refine ⟨_, rfl, ?_⟩; have HB0_ := HB; replace HB := Aside0.mk (below_step HB.out hb_); rw [← NF2.out]; clear hb_; clear HB0_) | ((with_reducible refine gate_dst (N := 7) rfl ?_); (try (refine gate_guard (by rfl) ?_; dsimp only)); refine page_alloc rfl rfl ?_; intro g_p w_p hg_ hp_ hb_; have G_p := Aside0.mk (show w.heap.size ≤ g_p by rw [hg_]; exact below_size HB.out); have P_p := Aside0.mk hp_; replace HB := Aside0.mk (below_step HB.out hb_); clear hg_ hp_ hb_) | ((with_reducible refine gate_dst (N := 8) rfl ?_); (try (refine gate_guard (by rfl) ?_; dsimp only)); refine page_alloc rfl rfl ?_; intro g_q w_q hg_ hp_ hb_; have G_q := Aside0.mk (show w.heap.size ≤ g_q by rw [hg_]; exact below_size HB.out); have NE_p_q := Aside0.mk (show g_p < g_q by rw [hg_]; exact P_p.out.lt); replace P_p := Aside0.mk (P_p.out.below hb_); have P_q := Aside0.mk hp_; replace HB := Aside0.mk (below_step HB.out hb_); clear hg_ hp_ hb_) | ((with_reducible refine gate_op (.store 65 (.tmp 7) (.tmp 24)) rfl ?_); (try (refine gate_guard (by rfl) ?_; dsimp only)); refine page_store rfl rfl (.tmp 7) (.tmp 24) rfl g_p _ pf rfl rfl P_p.out (LF1.out) ?_; intro w_s1 hp_ hg_; replace P_q := Aside0.mk (P_q.out.grown hg_ (fun e => by injection e with e; have := NE_p_q.out; omega)); replace P_p := Aside0.mk hp_; replace HB := Aside0.mk (page_below HB.out hg_ G_p.out); clear hp_ hg_) | ((with_reducible refine gate_op (.store 65 (.tmp 8) (.tmp 26)) rfl ?_); (try (refine gate_guard (by rfl) ?_; dsimp only)); refine page_store rfl rfl (.tmp 8) (.tmp 26) rfl g_q _ qf rfl rfl P_q.out (LF2.out) ?_; intro w_s2 hp_ hg_; replace P_p := Aside0.mk (P_p.out.grown hg_ (fun e => by injection e with e; have := NE_p_q.out; omega)); replace P_q := Aside0.mk hp_; replace HB := Aside0.mk (page_below HB.out hg_ G_q.out); clear hp_ hg_) | ((with_reducible refine gate_dst (N := 27) rfl ?_); (try (refine gate_guard (by rfl) ?_; dsimp only)); refine page_load rfl _ rfl g_p _ rfl P_p.out ?_) | ((with_reducible refine gate_dst (N := 28) rfl ?_); (try (refine gate_guard (by rfl) ?_; dsimp only)); refine page_load rfl _ rfl g_q _ rfl P_q.out ?_) | ((with_reducible refine gate_callee (f := 43) rfl ?_); (with_reducible refine gate_dst (N := 29) rfl ?_); (try (refine gate_guard (by rfl) ?_; dsimp only)); refine goesL_ (some 29) rfl rfl Try.func43 (by kernel_rfl) rfl #[.agg (pg pf), .agg (pg qf)] rfl (by (try simp only [List.map_toArray, List.map_cons, List.map_nil]); first | done | rfl) ?_; (refine (diff_page pf qf _ (LF1.out) (LF2.out)).mono ?_); rintro e w_df ⟨v_df, rfl, ho_, hb_⟩; refine ⟨_, rfl, ?_⟩; have HB0_ := HB; replace P_p := Aside0.mk (P_p.out.below hb_); replace P_q := Aside0.mk (P_q.out.below hb_); replace HB := Aside0.mk (below_step HB.out hb_); rw [← ND.out] at ho_; have H_df := Aside0.mk (Kd.R_lower ho_ (below_size HB0_.out)); clear ho_ hb_; obtain ⟨A_df, c_df, e_df⟩ := Kd.R_slice H_df.out; subst e_df; clear HB0_) | ((with_reducible refine gate_dst (N := 31) rfl ?_); (try (refine gate_guard (by rfl) ?_; dsimp only)); refine page_load rfl _ rfl g_q _ rfl P_q.out ?_) | ((with_reducible refine gate_callee (f := 44) rfl ?_); (with_reducible refine gate_dst (N := 33) rfl ?_); (try (refine gate_guard (by rfl) ?_; dsimp only)); refine goesL_ (some 33) rfl rfl Try.func44 (by kernel_rfl) rfl #[.agg (pg qf), .slice A_df d.length c_df] rfl (by (try simp only [List.map_toArray, List.map_cons, List.map_nil]); first | done | rfl) ?_; (refine (set_calls qf A_df c_df d _ (LF2.out) ?side1 ?side2 (by have := LD.out; omega)).mono ?_); (case side1 => exact (Kd.R_reads' H_df.out).2.2); (case side2 => exact (Kd.R_reads' H_df.out).2.1); rintro e w_x1 ⟨rfl, hb_⟩; refine ⟨_, rfl, ?_⟩; have HB0_ := HB; replace P_p := Aside0.mk (P_p.out.below hb_); replace P_q := Aside0.mk (P_q.out.below hb_); replace H_df := Aside0.mk (Kd.R_below H_df.out hb_); replace HB := Aside0.mk (below_step HB.out hb_); rw [S1.out]; clear hb_; (try simp only [errW_none, errW_some]); clear HB0_) | ((with_reducible refine gate_dst (N := 10) rfl ?_); (try (refine gate_guard (by rfl) ?_; dsimp only)); refine page_alloc rfl rfl ?_; intro g_r w_r hg_ hp_ hb_; have G_r := Aside0.mk (show w.heap.size ≤ g_r by rw [hg_]; exact below_size HB.out); have NE_p_r := Aside0.mk (show g_p < g_r by rw [hg_]; exact P_p.out.lt); have NE_q_r := Aside0.mk (show g_q < g_r by rw [hg_]; exact P_q.out.lt); replace P_p := Aside0.mk (P_p.out.below hb_); replace P_q := Aside0.mk (P_q.out.below hb_); replace H_df := Aside0.mk (Kd.R_below H_df.out hb_); have P_r := Aside0.mk hp_; replace HB := Aside0.mk (below_step HB.out hb_); clear hg_ hp_ hb_) | ((with_reducible refine gate_op (.store 65 (.tmp 10) (.tmp 34)) rfl ?_); (try (refine gate_guard (by rfl) ?_; dsimp only)); refine page_store rfl rfl (.tmp 10) (.tmp 34) rfl g_r _ rf rfl rfl P_r.out (LR.out) ?_; intro w_s3 hp_ hg_; replace P_p := Aside0.mk (P_p.out.grown hg_ (fun e => by injection e with e; have := NE_p_r.out; omega)); replace P_q := Aside0.mk (P_q.out.grown hg_ (fun e => by injection e with e; have := NE_q_r.out; omega)); replace H_df := Aside0.mk (row_far P_r.out H_df.out (by decide) hg_); replace P_r := Aside0.mk hp_; replace HB := Aside0.mk (page_below HB.out hg_ G_r.out); clear hp_ hg_; have hcr := P_r.out.cell 0 2 ZR.out) | ((with_reducible refine gate_dst (N := 40) rfl ?_); (try (refine gate_guard (by rfl) ?_; dsimp only)); refine page_cells rfl _ rfl g_r (2) pc rfl (by have h_ := P_r.out; rw [NR.out] at h_; exact h_) ?_) | ((with_reducible refine gate_dst (N := 42) rfl ?_); (try (refine gate_guard (by rfl) ?_; dsimp only)); refine page_cells rfl _ rfl g_p (1) pc rfl (by have h_ := P_p.out; rw [NP.out] at h_; exact h_) ?_) | ((with_reducible refine gate_dst (N := 43) rfl ?_); (try (refine gate_guard (by rfl) ?_; dsimp only)); refine cells_neq rfl _ _ rfl pc pc rfl rfl LPC.out LPC.out true (decide_eq_true rfl) ?_))
  have HBA := HB
  clear HB
  obtain ⟨w1, hw1⟩ : ∃ w1, w1 = w_s3 := ⟨_, rfl⟩
  subst hw1
  have HB := Aside0.mk (Below.refl w1.heap.size w1)
  have CD := Aside0.mk (Kd.R_reads' H_df.out).2.2
  clear H_df hcr
  go_wp2
  go_loopg [52] d.length (fun kq v52 w' => ∃ x : Int, v52 = .int .i64 x ∧ Aside0 (0 ≤ x ∧ x ≤ d.length ∧ kq + x.toNat = d.length) ∧ Aside0 (Below w1.heap.size w1 w'))
  case atStart => exact ⟨0, rfl, ⟨by omega⟩, HB⟩
  case round =>
    clear HB
    obtain ⟨x, rfl, HX, HB⟩ := hrel
    obtain ⟨hx0, hx1, hxk⟩ := HX.out
    have hld := LD.out
    by_cases hlt : x < d.length
    · obtain ⟨k1, rfl⟩ : ∃ k1, gk = k1 + 1 := ⟨gk - 1, by omega⟩
      have HXK := Aside0.mk hxk
      have c2 : decide (x < (d.length : Int)) = true := decide_eq_true hlt
      have q0 := eq_true hx0
      have q1 := eq_true hlt
      have ew : wrap64 (x + 1) = x + 1 := by unfold wrap64; omega
      clear hxk HX
      obtain ⟨i, v, hiv, i0, i1, hne, hprev⟩ := DA.out x hx0 hlt
      obtain ⟨ad, hA, h0_, h1_⟩ := img_at2 (Kd.C_below CD.out HB.out) x hx0 (by omega)
      rw [hiv] at h0_ h1_
      subst hA
      have h0 := Aside0.mk h0_
      have h1 := Aside0.mk h1_
      have QI := Aside0.mk (page_at LF2.out i0 i1)
      have c3 : decide (i < 0) = false := decide_eq_false (by omega)
      have c4 : decide (i ≥ 60) = false := decide_eq_false (by omega)
      have c5 : (rd qf (i + 1) == v) = false := by simp [hne]
      have q2 := eq_true i0
      have q3 := eq_true i1
      clear h0_ h1_ hiv hne
      by_cases hp : x > 0
      · have c6 : decide (x > 0) = true := decide_eq_true hp
        have ew2 : wrap64 (x - 1) = x - 1 := by unfold wrap64; omega
        have q4 : 0 ≤ x - 1 := by omega
        have q5 : x - 1 < (d.length : Int) := by omega
        have ew3 : IntKind.i64.wrap (x - 1) = x - 1 := by rw [IntKind.wrap_i64]; omega
        have q6 := eq_true q4
        have q7 := eq_true q5
        have q8 : 1 ≤ x := by omega
        have hpv := hprev hp
        obtain ⟨i2, hi2⟩ : ∃ i2, (d.getD (x - 1).toNat (0, 0)).1 = i2 := ⟨_, rfl⟩
        rw [hi2] at hpv
        have c7 : decide (i2 ≥ i) = false := decide_eq_false (by omega)
        have HI2 := Aside0.mk hi2
        clear hi2 hprev hpv hp
        go_upto_region 13 with (first | ((with_reducible refine gate_dst (N := 56) rfl ?_); (try (refine gate_guard (by rfl) ?_; dsimp only)); refine img_load rfl _ rfl _ i v rfl h0.out h1.out ?_) | ((with_reducible refine gate_dst (N := 13) rfl ?_); (try (refine gate_guard (by rfl) ?_; dsimp only)); refine img_alloc rfl rfl ?_; intro g_t w_t hg_ hp_ hb_; have G_t := Aside0.mk (show w1.heap.size ≤ g_t by rw [hg_]; exact below_size HB.out); have I_t := Aside0.mk hp_; replace HB := Aside0.mk (below_step HB.out hb_); clear hg_ hp_ hb_) | ((with_reducible refine gate_op (.store 84 (.tmp 13) (.tmp 56)) rfl ?_); (try (refine gate_guard (by rfl) ?_; dsimp only)); refine img_store rfl rfl (.tmp 13) (.tmp 56) rfl g_t _ _ i v rfl rfl I_t.out ?_; intro w_st hp_ hg_; replace I_t := Aside0.mk hp_; replace HB := Aside0.mk (img_below HB.out hg_ G_t.out); have hi0 := I_t.out.cell0; have hi1 := I_t.out.cell1; have hq1 := (P_q.out.below HB.out).cell (1 + i.toNat) _ QI.out; have h2 := (img_some CD.out HB.out (x - 1) q4 q5).1; rw [HI2.out] at h2; have h3 := h2; rw [Addr.add_add, Nat.add_zero, show (x - 1).toNat = x.toNat - 1 by omega] at h3; clear hp_ hg_))
        go_quiet (fail)
        go_wp2
        go_roundg k1
        case measure => omega
        case rel => exact ⟨x + 1, rfl, ⟨by have := HXK.out; omega⟩, ⟨pw_below_drewN HB.out nq⟩⟩
      · have c6 : decide (x > 0) = false := decide_eq_false hp
        clear hprev hp
        go_upto_region 13 with (first | ((with_reducible refine gate_dst (N := 56) rfl ?_); (try (refine gate_guard (by rfl) ?_; dsimp only)); refine img_load rfl _ rfl _ i v rfl h0.out h1.out ?_) | ((with_reducible refine gate_dst (N := 13) rfl ?_); (try (refine gate_guard (by rfl) ?_; dsimp only)); refine img_alloc rfl rfl ?_; intro g_t w_t hg_ hp_ hb_; have G_t := Aside0.mk (show w1.heap.size ≤ g_t by rw [hg_]; exact below_size HB.out); have I_t := Aside0.mk hp_; replace HB := Aside0.mk (below_step HB.out hb_); clear hg_ hp_ hb_) | ((with_reducible refine gate_op (.store 84 (.tmp 13) (.tmp 56)) rfl ?_); (try (refine gate_guard (by rfl) ?_; dsimp only)); refine img_store rfl rfl (.tmp 13) (.tmp 56) rfl g_t _ _ i v rfl rfl I_t.out ?_; intro w_st hp_ hg_; replace I_t := Aside0.mk hp_; replace HB := Aside0.mk (img_below HB.out hg_ G_t.out); have hi0 := I_t.out.cell0; have hi1 := I_t.out.cell1; have hq1 := (P_q.out.below HB.out).cell (1 + i.toNat) _ QI.out; clear hp_ hg_))
        go_quiet (fail)
        go_wp2
        go_roundg k1
        case measure => omega
        case rel => exact ⟨x + 1, rfl, ⟨by have := HXK.out; omega⟩, ⟨pw_below_drewN HB.out nq⟩⟩
    · have c2 : decide (x < (d.length : Int)) = false := decide_eq_false hlt
      obtain rfl : x = d.length := by omega
      clear hxk HX hx0 hx1 hlt
      go_wp2_with (first | ((with_reducible refine gate_dst (N := 92) rfl ?_); (try (refine gate_guard (by rfl) ?_; dsimp only)); refine page_load rfl _ rfl g_p pf rfl (P_p.out.below HB.out) ?_) | ((with_reducible refine gate_callee (f := 44) rfl ?_); (with_reducible refine gate_dst (N := 94) rfl ?_); (try (refine gate_guard (by rfl) ?_; dsimp only)); refine goesL_ (some 94) rfl rfl Try.func44 (by kernel_rfl) rfl #[.agg (pg pf), .slice Ax xs.length cx] rfl (by (try simp only [List.map_toArray, List.map_cons, List.map_nil]); first | done | rfl) ?_; (refine (set_calls pf Ax cx xs _ LF1.out ?side1 ?side2 (by have := SX.out; omega)).mono ?_); (case side1 => exact (Kd.C_below (Kd.C_below CX.out HBA.out) HB.out)); (case side2 => exact LX.out); rintro e w_x2 ⟨rfl, hb_⟩; refine ⟨_, rfl, ?_⟩; have HB0_ := HB; replace HB := Aside0.mk (below_step HB.out hb_); rw [S2.out]; clear hb_; clear HB0_) | ((with_reducible refine gate_dst (N := 14) rfl ?_); (try (refine gate_guard (by rfl) ?_; dsimp only)); refine page_alloc rfl rfl ?_; intro g_s w_s hg_ hp_ hb_; have G_s := Aside0.mk (show w1.heap.size ≤ g_s by rw [hg_]; exact below_size HB.out); have P_s := Aside0.mk hp_; replace HB := Aside0.mk (below_step HB.out hb_); clear hg_ hp_ hb_) | ((with_reducible refine gate_op (.store 65 (.tmp 14) (.tmp 95)) rfl ?_); (try (refine gate_guard (by rfl) ?_; dsimp only)); refine page_store rfl rfl (.tmp 14) (.tmp 95) rfl g_s _ sp rfl rfl P_s.out (LS.out) ?_; intro w_s4 hp_ hg_; replace P_s := Aside0.mk hp_; replace HB := Aside0.mk (page_below HB.out hg_ G_s.out); clear hp_ hg_) | ((with_reducible refine gate_dst (N := 97) rfl ?_); (try (refine gate_guard (by rfl) ?_; dsimp only)); refine page_load rfl _ rfl g_p pf rfl (P_p.out.below HB.out) ?_) | ((with_reducible refine gate_dst (N := 15) rfl ?_); (try (refine gate_guard (by rfl) ?_; dsimp only)); refine page_alloc rfl rfl ?_; intro g_z w_z hg_ hp_ hb_; have G_z := Aside0.mk (show w1.heap.size ≤ g_z by rw [hg_]; exact below_size HB.out); have NE_s_z := Aside0.mk (show g_s < g_z by rw [hg_]; exact P_s.out.lt); replace P_s := Aside0.mk (P_s.out.below hb_); have P_z := Aside0.mk hp_; replace HB := Aside0.mk (below_step HB.out hb_); clear hg_ hp_ hb_) | ((with_reducible refine gate_op (.store 65 (.tmp 15) (.tmp 97)) rfl ?_); (try (refine gate_guard (by rfl) ?_; dsimp only)); refine page_store rfl rfl (.tmp 15) (.tmp 97) rfl g_z _ pf rfl rfl P_z.out (LF1.out) ?_; intro w_s5 hp_ hg_; replace P_s := Aside0.mk (P_s.out.grown hg_ (fun e => by injection e with e; have := NE_s_z.out; omega)); replace P_z := Aside0.mk hp_; replace HB := Aside0.mk (page_below HB.out hg_ G_z.out); clear hp_ hg_))
      go_loopg [100] xs.length (fun kq v100 w' => ∃ (x : Int) (z : List Int), v100 = .int .i64 x ∧ Aside0 (0 ≤ x ∧ x ≤ xs.length ∧ kq + x.toNat = xs.length) ∧ Aside0 (z.length = 61 ∧ setOf pf xs = setOf z (xs.drop x.toNat)) ∧ Aside0 (Page w' g_z z) ∧ Aside0 (Page w' g_s sp) ∧ Aside0 (Below w1.heap.size w1 w'))
      case atStart => exact ⟨0, pf, rfl, ⟨by omega⟩, ⟨LF1.out, rfl⟩, P_z, P_s, HB⟩
      case round =>
        clear HB P_z P_s
        obtain ⟨x, z, rfl, HX, HQ, P_z, P_s, HB⟩ := hrel
        obtain ⟨hx0, hx1, hxk⟩ := HX.out
        by_cases hlt : x < xs.length
        · obtain ⟨k1, rfl⟩ : ∃ k1, gk = k1 + 1 := ⟨gk - 1, by omega⟩
          have HXK := Aside0.mk hxk
          have c3 : decide (x < (xs.length : Int)) = true := decide_eq_true hlt
          have q0 := eq_true hx0
          have q1 := eq_true hlt
          have ew : wrap64 (x + 1) = x + 1 := by have := SX.out; unfold wrap64; omega
          clear hxk HX
          obtain ⟨ad, hA, h0_, h1_⟩ := img_at2 (Kd.C_below (Kd.C_below CX.out HBA.out) HB.out) x hx0 (by omega)
          have hd := drop_at hx0 hlt
          obtain ⟨⟨i, v⟩, hiv⟩ : ∃ y, y = xs.getD x.toNat (0, 0) := ⟨_, rfl⟩
          rw [← hiv] at h0_ h1_ hd
          have HD := Aside0.mk hd
          subst hA
          clear hiv hd
          have h0 := Aside0.mk h0_
          have h1 := Aside0.mk h1_
          clear h0_ h1_
          by_cases hr : i < 0 ∨ 60 ≤ i
          · have RES : (sp, es) = (none61, some 1) := by rw [← S2.out, HQ.out.2, HD.out]; unfold setOf; rw [if_pos hr]
            injection RES with r1 r2
            subst r2
            rw [← NN.out] at r1
            subst r1
            rw [show errW (some 1) = Value.iface 49 (.int .i64 1) from rfl]
            by_cases hi0 : i < 0
            · have c4 : decide (i < 0) = true := decide_eq_true hi0
              clear hr hi0
              go_wp2_with (first | ((with_reducible refine gate_dst (N := 103) rfl ?_); (try (refine gate_guard (by rfl) ?_; dsimp only)); refine img_load rfl _ rfl _ i v rfl h0.out h1.out ?_) | ((with_reducible refine gate_dst (N := 17) rfl ?_); (try (refine gate_guard (by rfl) ?_; dsimp only)); refine img_alloc rfl rfl ?_; intro g_t w_t hg_ hp_ hb_; have G_t := Aside0.mk (show w1.heap.size ≤ g_t by rw [hg_]; exact below_size HB.out); have NE_s_t := Aside0.mk (show g_s < g_t by rw [hg_]; exact P_s.out.lt); have NE_z_t := Aside0.mk (show g_z < g_t by rw [hg_]; exact P_z.out.lt); replace P_s := Aside0.mk (P_s.out.below hb_); replace P_z := Aside0.mk (P_z.out.below hb_); have I_t := Aside0.mk hp_; replace HB := Aside0.mk (below_step HB.out hb_); clear hg_ hp_ hb_) | ((with_reducible refine gate_op (.store 84 (.tmp 17) (.tmp 103)) rfl ?_); (try (refine gate_guard (by rfl) ?_; dsimp only)); refine img_store rfl rfl (.tmp 17) (.tmp 103) rfl g_t _ _ i v rfl rfl I_t.out ?_; intro w_st hp_ hg_; replace P_s := Aside0.mk (P_s.out.grown hg_ (fun e => by injection e with e; have := NE_s_t.out; omega)); replace P_z := Aside0.mk (P_z.out.grown hg_ (fun e => by injection e with e; have := NE_z_t.out; omega)); replace I_t := Aside0.mk hp_; replace HB := Aside0.mk (img_below HB.out hg_ G_t.out); have hi0 := I_t.out.cell0; have hi1 := I_t.out.cell1; clear hp_ hg_) | ((with_reducible refine gate_dst (N := 116) rfl ?_); (try (refine gate_guard (by rfl) ?_; dsimp only)); refine page_load rfl _ rfl g_s _ rfl (by have h_ := P_s.out; exact h_) ?_) | ((with_reducible refine gate_dst (N := 117) rfl ?_); (try (refine gate_guard (by rfl) ?_; dsimp only)); refine page_blank rfl rfl sp (NN.out) ?_) | ((with_reducible refine gate_dst (N := 118) rfl ?_); (try (refine gate_guard (by rfl) ?_; dsimp only)); refine page_eql rfl _ _ rfl sp sp rfl rfl (LN.out) (LN.out) true (decide_eq_true rfl) ?_))
              go_ret
              exact ⟨rfl, below_step HBA.out HB.out⟩
            · have c4 : decide (i < 0) = false := decide_eq_false hi0
              have c5 : decide (i > 59) = true := decide_eq_true (by omega)
              clear hr hi0
              go_wp2_with (first | ((with_reducible refine gate_dst (N := 103) rfl ?_); (try (refine gate_guard (by rfl) ?_; dsimp only)); refine img_load rfl _ rfl _ i v rfl h0.out h1.out ?_) | ((with_reducible refine gate_dst (N := 17) rfl ?_); (try (refine gate_guard (by rfl) ?_; dsimp only)); refine img_alloc rfl rfl ?_; intro g_t w_t hg_ hp_ hb_; have G_t := Aside0.mk (show w1.heap.size ≤ g_t by rw [hg_]; exact below_size HB.out); have NE_s_t := Aside0.mk (show g_s < g_t by rw [hg_]; exact P_s.out.lt); have NE_z_t := Aside0.mk (show g_z < g_t by rw [hg_]; exact P_z.out.lt); replace P_s := Aside0.mk (P_s.out.below hb_); replace P_z := Aside0.mk (P_z.out.below hb_); have I_t := Aside0.mk hp_; replace HB := Aside0.mk (below_step HB.out hb_); clear hg_ hp_ hb_) | ((with_reducible refine gate_op (.store 84 (.tmp 17) (.tmp 103)) rfl ?_); (try (refine gate_guard (by rfl) ?_; dsimp only)); refine img_store rfl rfl (.tmp 17) (.tmp 103) rfl g_t _ _ i v rfl rfl I_t.out ?_; intro w_st hp_ hg_; replace P_s := Aside0.mk (P_s.out.grown hg_ (fun e => by injection e with e; have := NE_s_t.out; omega)); replace P_z := Aside0.mk (P_z.out.grown hg_ (fun e => by injection e with e; have := NE_z_t.out; omega)); replace I_t := Aside0.mk hp_; replace HB := Aside0.mk (img_below HB.out hg_ G_t.out); have hi0 := I_t.out.cell0; have hi1 := I_t.out.cell1; clear hp_ hg_) | ((with_reducible refine gate_dst (N := 116) rfl ?_); (try (refine gate_guard (by rfl) ?_; dsimp only)); refine page_load rfl _ rfl g_s _ rfl (by have h_ := P_s.out; exact h_) ?_) | ((with_reducible refine gate_dst (N := 117) rfl ?_); (try (refine gate_guard (by rfl) ?_; dsimp only)); refine page_blank rfl rfl sp (NN.out) ?_) | ((with_reducible refine gate_dst (N := 118) rfl ?_); (try (refine gate_guard (by rfl) ?_; dsimp only)); refine page_eql rfl _ _ rfl sp sp rfl rfl (LN.out) (LN.out) true (decide_eq_true rfl) ?_))
              go_ret
              exact ⟨rfl, below_step HBA.out HB.out⟩
          · have c4 : decide (i < 0) = false := decide_eq_false (by omega)
            have c5 : decide (i > 59) = false := decide_eq_false (by omega)
            have i0 : 0 ≤ i := by omega
            have i1 : i < 60 := by omega
            have NX := Aside0.mk (show setOf pf xs = setOf (z.set (1 + i.toNat) v) (xs.drop (x + 1).toNat) by rw [HQ.out.2, HD.out, setOf, if_neg hr])
            have PA := Aside0.mk (page_at HQ.out.1 i0 i1)
            clear hr
            go_wp2_with (first | ((with_reducible refine gate_dst (N := 103) rfl ?_); (try (refine gate_guard (by rfl) ?_; dsimp only)); refine img_load rfl _ rfl _ i v rfl h0.out h1.out ?_) | ((with_reducible refine gate_dst (N := 17) rfl ?_); (try (refine gate_guard (by rfl) ?_; dsimp only)); refine img_alloc rfl rfl ?_; intro g_t w_t hg_ hp_ hb_; have G_t := Aside0.mk (show w1.heap.size ≤ g_t by rw [hg_]; exact below_size HB.out); have NE_s_t := Aside0.mk (show g_s < g_t by rw [hg_]; exact P_s.out.lt); have NE_z_t := Aside0.mk (show g_z < g_t by rw [hg_]; exact P_z.out.lt); replace P_s := Aside0.mk (P_s.out.below hb_); replace P_z := Aside0.mk (P_z.out.below hb_); have I_t := Aside0.mk hp_; replace HB := Aside0.mk (below_step HB.out hb_); clear hg_ hp_ hb_) | ((with_reducible refine gate_op (.store 84 (.tmp 17) (.tmp 103)) rfl ?_); (try (refine gate_guard (by rfl) ?_; dsimp only)); refine img_store rfl rfl (.tmp 17) (.tmp 103) rfl g_t _ _ i v rfl rfl I_t.out ?_; intro w_st hp_ hg_; replace P_s := Aside0.mk (P_s.out.grown hg_ (fun e => by injection e with e; have := NE_s_t.out; omega)); replace P_z := Aside0.mk (P_z.out.grown hg_ (fun e => by injection e with e; have := NE_z_t.out; omega)); replace I_t := Aside0.mk hp_; replace HB := Aside0.mk (img_below HB.out hg_ G_t.out); have hi0 := I_t.out.cell0; have hi1 := I_t.out.cell1; have hpc := P_z.out.cell (1 + i.toNat) _ PA.out; have hpf := P_z.out.free (1 + i.toNat); clear hp_ hg_))
            have hg_ := grown_setCell w_st g_z (1 + i.toNat) (.int .i64 (v)); replace P_s := Aside0.mk (P_s.out.grown hg_ (fun e => by injection e with e; have := NE_s_z.out; omega)); replace P_z := Aside0.mk (P_z.out.set (1 + i.toNat) v); replace HB := Aside0.mk (page_below HB.out hg_ G_z.out); clear hg_
            go_roundg k1
            case measure => omega
            case rel => exact ⟨x + 1, _, rfl, ⟨by have := HXK.out; omega⟩, ⟨by rw [List.length_set]; exact HQ.out.1, NX.out⟩, P_z, P_s, HB⟩
        · have c3 : decide (x < (xs.length : Int)) = false := decide_eq_false hlt
          obtain rfl : x = xs.length := by omega
          have RES : (sp, es) = (z, none) := by rw [← S2.out, HQ.out.2, Int.toNat_natCast, List.drop_length]; rfl
          injection RES with r1 r2
          subst r2
          subst r1
          rw [show errW none = Value.nilIface from rfl]
          clear hxk HX
          go_wp2_with (first | ((with_reducible refine gate_dst (N := 130) rfl ?_); (try (refine gate_guard (by rfl) ?_; dsimp only)); refine page_load rfl _ rfl g_s _ rfl P_s.out ?_) | ((with_reducible refine gate_dst (N := 131) rfl ?_); (try (refine gate_guard (by rfl) ?_; dsimp only)); refine page_load rfl _ rfl g_z _ rfl P_z.out ?_) | ((with_reducible refine gate_dst (N := 132) rfl ?_); (try (refine gate_guard (by rfl) ?_; dsimp only)); refine page_eql rfl _ _ rfl sp sp rfl rfl (LS.out) (LS.out) true (decide_eq_true rfl) ?_))
          go_ret
          exact ⟨rfl, below_step HBA.out HB.out⟩
theorem sets_true (Aa Ab Ax : Option Addr) (ca cb cx : Nat) (la lb : List Int) (xs : List (Int × Int)) (w : World) (hA : Kd.C (Kd.int .i64) w Aa la.length la) (hB : Kd.C (Kd.int .i64) w Ab lb.length lb) (hC : Kd.C kdI w Ax xs.length xs) (hca : la.length ≤ ca) (hcb : lb.length ≤ cb) (hcx : xs.length ≤ cx)
    (sa : la.length ≤ 4611686018427387904) (sb : lb.length ≤ 4611686018427387904) :
    Calls Try.prog 13 #[.slice Aa la.length ca, .slice Ab lb.length cb, .slice Ax xs.length cx] w fun e w' => e = .returned (.bool true) ∧ Below w.heap.size w w' := by
  by_cases hx : 2000 < xs.length
  · exact sets_many Aa Ab Ax ca cb cx la lb xs w hx
  · exact sets_few Aa Ab Ax ca cb cx la lb xs w hA hB hC hca hcb hcx sa sb hx
end Go.Proofs.Ytbphmpncajfaiaa.K
/- Words for the rows: a slice of images that came in, opened. -/
namespace Go.Proofs.Ytbphmpncajfaiaa.K
open Go.ChangeShapes Go.WideShapes Go.ChangeAt Go.RowKit Go.Joins Go.Proofs.Ytbphmpncajfaiaa.M Go.Proofs.YtbphmpncajfaiaaW.PrintWords Go.Proofs.YtbphmpncajfaiaaW.PrintLast Go.Proofs.YtbphmpncajfaiaaW.PrintMore
theorem open_imgs {H : Type} {enc : TypeId × Value → H} {P : Program} {W : World} {t e s : TypeId} {f0 f1 : Field} {fuel : Nat} {cs : List Value} {x : DataW H × List MemPlace} (hu : P.underlying t = some (.slice e)) (he : P.underlying e = some (.struct #[f0, f1]))
    (ce : P.cellsOf e = 2) (o0 : f0.offset = 0) (o1 : f1.offset = 1) (t0 : f0.type = s) (t1 : f1.type = s) (hs : P.underlying s = some (.int .i64)) (cI : P.cellsOf s = 1)
    (h : DataW.trod enc P W 0 (fun _ => true) true fuel t cs = some x) :
    ∃ (A : Option Addr) (l : List (Int × Int)) (c : Nat), cs = [.slice A l.length c] ∧ l.length ≤ c ∧ kdI.C W A l.length l := by
  rcases Go.Deep.open_slice_pairs hu he ce o0 o1 (by rw [t0]; exact cI) (by rw [t1]; exact cI) h with ⟨rfl, _⟩ | ⟨a, len, cap, m, n, V0, V1, D0, D1, P0, P1, rfl, _, hl, hm, hmm, _, hx⟩
  · exact ⟨none, [], 0, rfl, Nat.le_refl _, Kd.C_nil _ _⟩
  · have hmc : m = cap := by simpa using hmm
    have key : ∀ i, ∃ p : Int × Int, i < len → W.cell? (a.add (i * 2)) = some (.int .i64 p.1) ∧ W.cell? (a.add (i * 2 + 1)) = some (.int .i64 p.2) := by
      intro i
      by_cases hi : i < len
      · obtain ⟨h0, h1, g0, g1⟩ := hx i (by omega)
        rw [t0] at g0
        rw [t1] at g1
        obtain ⟨x0, e0, _, _⟩ := DataW.trod_int hs g0
        obtain ⟨x1, e1, _, _⟩ := DataW.trod_int hs g1
        injection e0 with e0 _
        injection e1 with e1 _
        exact ⟨(x0, x1), fun _ => ⟨by rw [h0, e0], by rw [h1, e1]⟩⟩
      · exact ⟨(0, 0), fun h => absurd h hi⟩
    obtain ⟨f, hf⟩ := Classical.axiomOfChoice key
    refine ⟨some a, (List.range len).map f, cap, by simp, by simpa using hl, ?_⟩
    refine ⟨rfl, ?_, fun _ => ⟨a, rfl, ?_⟩⟩
    · rw [List.length_map, List.length_range]
      have : maxLen = 9223372036854775807 ∨ maxLen ≤ 9223372036854775807 := by decide
      omega
    · intro j p hj
      have hlt : j < len := by
        have := (List.getElem?_eq_some_iff.1 hj).1
        simpa using this
      rw [List.getElem?_map, List.getElem?_range hlt] at hj
      injection hj with hj
      subst hj
      obtain ⟨k0, k1⟩ := hf j hlt
      refine ⟨[.int .i64 (f j).1, .int .i64 (f j).2], rfl, ⟨[_], [_], rfl, rfl, rfl⟩, fun i u hu => ?_⟩
      match i, hu with
      | 0, hu => rw [show ([Value.int IntKind.i64 (f j).1, Value.int IntKind.i64 (f j).2] : List Value)[0]? = some (.int .i64 (f j).1) from rfl] at hu; injection hu with hu; subst hu; exact k0
      | 1, hu => rw [show ([Value.int IntKind.i64 (f j).1, Value.int IntKind.i64 (f j).2] : List Value)[1]? = some (.int .i64 (f j).2) from rfl] at hu; injection hu with hu; subst hu; exact k1
end Go.Proofs.Ytbphmpncajfaiaa.K
/- For every input PageSets answers true: Set of the one with Diff of both has the other's cells. -/
namespace Go.Proofs.Ytbphmpncajfaiaa.pageSets
open Go.ChangeShapes Go.WideShapes Go.ChangeAt Go.RowKit Go.Joins Go.Proofs.Ytbphmpncajfaiaa.K Go.Proofs.Ytbphmpncajfaiaa.M
set_option linter.unusedVariables false
set_option linter.unusedSimpArgs false
set_option maxRecDepth 100000 in
theorem lifted (os : Os) (started : os.Started) (H : Type) (enc : TypeId × Value → H) :
    ReturnsInHanded {} Try.checked os 13 .any (Rows.pageSetsSpec.pre6 enc Try.prog Try.f13 Rows.pageSetsRow.domain false) (Rows.pageSetsSpec.post enc Try.prog Try.f13 false true false false) := by
  refine returnsInHanded_of_change_sized (C := Try.checked) own started (by kernel_rfl) Try.func13
    (ChangeSpec.witness6 (enc := enc) (C := Try.checked) false ⟨#[], #[.slice none 0 0, .slice none 0 0, .slice none 0 0], []⟩ 8 (by kernel_rfl) (by kernel_rfl) (by kernel_rfl) (by kernel_rfl)) ?_
  intro W base args ds gs before hval0 hW hcnd hsz0 _
  have hsz : (DataW.weightsEach Try.prog (Try.f13.params.toList ++ Rows.pageSetsSpec.plain.varTypes Try.prog) (ds ++ gs)).all (· ≤ reachBytes) = true := hsz0
  have hval : ∀ (j : Nat) t v, Try.f13.params[j]? = some t → args[j]? = some v → Value.okWide Try.prog W .any base t v := hval0
  have hW' := hW
  obtain ⟨p, q, hA0, hV, rfl, hfz, hnd⟩ := hW
  have hA : DataW.TrodAll enc Try.prog W 0 (fun _ => true) true Try.f13.params.toList args.toList ds p := hA0
  rw [Try.params13] at hA hval hsz
  obtain ⟨v0, vs0, d0, ds0, p0, q0, hargs, rfl, rfl, h0, r0⟩ := trodAll_cons hA
  obtain ⟨v1, vs1, d1, ds1, p1, q1, rfl, rfl, rfl, h1, r1⟩ := trodAll_cons r0
  obtain ⟨v2, vs2, d2, ds2, p2, q2, rfl, rfl, rfl, h2, r2⟩ := trodAll_cons r1
  obtain ⟨rfl, rfl, rfl⟩ := trodAll_nil r2
  obtain rfl : args = #[v0, v1, v2] := by cases args; simp_all
  obtain ⟨rfl, rfl⟩ := trodVars_none hV
  have k0 := h0
  obtain ⟨fu0, hf0⟩ := h0
  obtain ⟨A0, l0, c0, hcs0, lc0, hC0, hw0, sz0⟩ := open_row Try.underlying27 Try.underlying3 (by kernel_rfl) hf0 hsz (j := 0) (t := 27) rfl rfl (B := 8) (by kernel_rfl)
  obtain ⟨aa0, ln0, cp0, rfl⟩ := okWide_slice Try.underlying27 (hval 0 27 v0 rfl rfl)
  simp only [Value.cells, List.cons.injEq, and_true, Value.slice.injEq] at hcs0
  obtain ⟨rfl, rfl, rfl⟩ := hcs0
  have k1 := h1
  obtain ⟨fu1, hf1⟩ := h1
  obtain ⟨A1, l1, c1, hcs1, lc1, hC1, hw1, sz1⟩ := open_row Try.underlying27 Try.underlying3 (by kernel_rfl) hf1 hsz (j := 1) (t := 27) rfl rfl (B := 8) (by kernel_rfl)
  obtain ⟨aa1, ln1, cp1, rfl⟩ := okWide_slice Try.underlying27 (hval 1 27 v1 rfl rfl)
  simp only [Value.cells, List.cons.injEq, and_true, Value.slice.injEq] at hcs1
  obtain ⟨rfl, rfl, rfl⟩ := hcs1
  have k2 := h2
  obtain ⟨fu2, hf2⟩ := h2
  obtain ⟨A2, l2, c2, hcs2, lc2, hC2⟩ := open_imgs Try.underlying80 Try.underlying84 (by kernel_rfl) rfl rfl rfl rfl Try.underlying3 (by kernel_rfl) hf2
  obtain ⟨aa2, ln2, cp2, rfl⟩ := okWide_slice Try.underlying80 (hval 2 80 v2 rfl rfl)
  simp only [Value.cells, List.cons.injEq, and_true, Value.slice.injEq] at hcs2
  obtain ⟨rfl, rfl, rfl⟩ := hcs2
  clear hA0 hval0 hsz0
  refine (sets_true aa0 aa1 aa2 cp0 cp1 cp2 l0 l1 l2 W hC0 hC1 hC2 lc0 lc1 lc2 (by omega) (by omega)).mono fun e W' ⟨he, bel⟩ => ?_
  subst he
  exact ⟨_, rfl, _, _, _, [], _, [], hW', trodAll_mk1 (shut_bool Try.underlying4 _), (trodAll_cons_mk (Below.trod laidOut (by kernel_rfl) (of_decide_eq_true (by kernel_rfl)) k0 bel (places_lt k0)) (trodAll_cons_mk (Below.trod laidOut (by kernel_rfl) (of_decide_eq_true (by kernel_rfl)) k1 bel (places_lt k1)) (trodAll_cons_mk (Below.trod laidOut (by kernel_rfl) (of_decide_eq_true (by kernel_rfl)) k2 bel (places_lt k2)) trodAll_mk0))), rfl, bel.frame _, fun h => by cases h⟩
theorem over : Rows.pageSetsRow.holds Try.pinned (OpenSpec.ofChange Rows.pageSetsSpec) :=
  OpenClaim.holds_of_wide 13 Try.f13 rfl rfl rfl rfl rfl rfl rfl ⟨rfl, rfl, rfl, rfl, rfl⟩ rfl rfl rfl rfl rfl (by kernel_rfl) Try.func13 (by kernel_rfl)
    (of_decide_eq_true (by kernel_rfl)) (by unfold Func.isWrapper; first | (rw [if_pos (by decide +kernel)]; kernel_rfl) | (rw [if_neg (by decide +kernel)]; exact ⟨rfl, rfl⟩))
    (fun os started H enc _ => lifted os started H enc)
theorem proved : Rows.PageSetsSaid := over
#print axioms proved
end Go.Proofs.Ytbphmpncajfaiaa.pageSets
namespace Go.Proofs.Ytbphmpncajfaiaa
/-- The row, under a short name, for the claim. -/
theorem pageSets_holds : Rows.PageSetsSaid := pageSets.proved
end Go.Proofs.Ytbphmpncajfaiaa
