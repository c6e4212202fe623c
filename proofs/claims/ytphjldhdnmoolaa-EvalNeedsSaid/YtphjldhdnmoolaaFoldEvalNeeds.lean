/- For every input EvalNeeds answers true: needs ahead of all, what is given behind all. -/
import Derived.Test.YtphjldhdnmoolaaJBase4
import Derived.Test.YtphjldhdnmoolaaRows
set_option linter.unusedVariables false
set_option linter.unusedSimpArgs false
/- The walks of some functions over the abstract machine. -/
namespace Go.Proofs.Ytphjldhdnmoolaa.A
open Go
/-! EvalOperators -/
def v2 : Bytes := ⟨#[111, 112, 32, 111, 40, 97, 44, 32, 98, 41, 32, 123, 32, 91, 48, 93, 32, 61, 32, 97, 32, 47, 32, 98, 59, 32, 91, 49, 93, 32, 61, 32, 97, 32, 37, 32, 98, 59, 32, 91, 50, 93, 32, 61, 32, 91, 48, 93, 32, 42, 32, 98, 32, 43, 32, 91, 49, 93, 59, 32, 91, 51, 93, 32, 61, 32, 45, 97, 59, 32, 91, 52, 93, 32, 61, 32, 97, 32, 45, 32, 98, 32, 43, 32, 98, 59, 32, 103, 105, 118, 101, 32, 97, 32, 42, 32, 98, 59, 32, 125]⟩
set_option maxRecDepth 100000
theorem v2_code : (parse v2).2.1 = 0 := by rw [parse_Q]; kernel_rfl
def o0 (a b : Int) : Int := if b = 0 then 0 else w64 (a.tdiv b)
def o1 (a b : Int) : Int := if b = 0 then 0 else a.tmod b
def o2 (a b : Int) : Int := w64 (w64 (o0 a b * b) + o1 a b)
def o3 (a : Int) : Int := w64 (0 - a)
def o4 (a b : Int) : Int := w64 (w64 (a - b) + b)
def oC (a b : Int) : List Int := ((((zeros.set 0 (o0 a b)).set 1 (o1 a b)).set 2 (o2 a b)).set 3 (o3 a)).set 4 (o4 a b)
theorem v2_run (a b : Int) : runP (parse v2).1 0 zeros [a, b] = some ⟨0, oC a b, w64 (a * b), 0⟩ := by rw [parse_Q]; kernel_rfl
theorem w64_spec (x : Int) : ∃ k : Int, w64 x = x + 18446744073709551616 * k := by
  simp only [w64, IntKind.wrap, IntKind.bits, IntKind.signed]
  by_cases h : (9223372036854775808 : Int) ≤ x % 18446744073709551616
  · exact ⟨-(x / 18446744073709551616) - 1, by simp at *; omega⟩
  · exact ⟨-(x / 18446744073709551616), by simp at *; omega⟩
theorem w64_eq {x y k : Int} (h0 : -9223372036854775808 ≤ y) (h1 : y < 9223372036854775808) (h : x = y + 18446744073709551616 * k) : w64 x = y := by
  subst h
  simp only [w64, IntKind.wrap, IntKind.bits, IntKind.signed]
  simp
  omega
section
variable {a b : Int} (ha0 : -9223372036854775808 ≤ a) (ha1 : a < 9223372036854775808)
include ha0 ha1
theorem o4_eq : o4 a b = a := by
  obtain ⟨k, hk⟩ := w64_spec (a - b)
  unfold o4
  exact w64_eq ha0 ha1 (k := k) (by rw [hk]; omega)
theorem o2_eq (hb : b ≠ 0) : o2 a b = a := by
  unfold o2 o0 o1
  rw [if_neg hb, if_neg hb]
  obtain ⟨k1, h1⟩ := w64_spec (a.tdiv b)
  rw [h1]
  obtain ⟨k2, h2⟩ := w64_spec ((a.tdiv b + 18446744073709551616 * k1) * b)
  rw [h2, Int.add_mul, Int.mul_assoc]
  have h3 := Int.tdiv_mul_add_tmod a b
  exact w64_eq ha0 ha1 (k := k1 * b + k2) (by rw [Int.mul_add]; omega)
theorem o1_sign (hb : b ≠ 0) : o1 a b = 0 ∨ (o1 a b < 0 ↔ a < 0) := by
  unfold o1
  rw [if_neg hb]
  by_cases h : 0 ≤ a
  · have h2 := Int.tmod_nonneg b h
    by_cases h3 : a.tmod b = 0
    · exact .inl h3
    · right; omega
  · have h2 := Int.tmod_nonneg b (show 0 ≤ -a by omega)
    rw [Int.neg_tmod] at h2
    by_cases h3 : a.tmod b = 0
    · exact .inl h3
    · right; omega
end
theorem oC_len (a b : Int) : (oC a b).length = 60 := by simp [oC, zeros]
theorem oC_map (a b : Int) : (oC a b).map (IV.v <| .int .i64 ·) = ii (o0 a b) :: ii (o1 a b) :: ii (o2 a b) :: ii (o3 a) :: ii (o4 a b) :: (List.replicate 55 0).map (IV.v <| .int .i64 ·) := by
  unfold oC
  generalize o0 a b = x0
  generalize o1 a b = x1
  generalize o2 a b = x2
  generalize o3 a = x3
  generalize o4 a b = x4
  rfl
set_option maxRecDepth 100000 in
set_option maxHeartbeats 4000000 in
theorem operators_law (m : Mem) (a b : Int) (ha0 : -9223372036854775808 ≤ a) (ha1 : a < 9223372036854775808) : Sim 17 [ii a, ii b] m (fun r m' => r = bb true ∧ m' = m) := by
  have h1 := fun m => parse_sim m v2 (by decide)
  have ka := fun m => parse_run v2_code m 0 zeros z60 [a, b] _ (v2_run a b)
  rw [v2_code] at h1
  generalize (parse v2).2.2 = pl at h1
  generalize (parse v2).1 = D at h1 ka
  have l60 := oC_len a b
  have e4 := o4_eq (b := b) ha0 ha1
  refine Sim.ofS 87 [.tmp 4] Try.func17 rfl rfl rfl (by simp) fun wr => ?_
  simp only [go_sem, Nat.reduceEqDiff, Nat.reduceBEq, Int.reduceToNat, Int.reduceLT, Int.reduceLE, Int.reduceEq, Nat.reduceLeDiff, Nat.reduceLT, Nat.reduceMul, Nat.reduceAdd, String.reduceEq]
  refine TS.seq (TS.of [] fun Q hQ => ?_)
  simp only [go_sem, Nat.reduceEqDiff, Nat.reduceBEq, Int.reduceToNat, Int.reduceLT, Int.reduceLE, Int.reduceEq, Nat.reduceLeDiff, Nat.reduceLT, Nat.reduceMul, Nat.reduceAdd, String.reduceEq]
  refine hQ .normal _ ?_; clear hQ Q
  refine TS.seq (TS.of [] fun Q hQ => ?_)
  simp only [go_sem, Nat.reduceEqDiff, Nat.reduceBEq, Int.reduceToNat, Int.reduceLT, Int.reduceLE, Int.reduceEq, Nat.reduceLeDiff, Nat.reduceLT, Nat.reduceMul, Nat.reduceAdd, String.reduceEq]
  refine cal_eq (alive9_sim _) ?_
  simp only [go_sem, Nat.reduceEqDiff, Nat.reduceBEq, Int.reduceToNat, Int.reduceLT, Int.reduceLE, Int.reduceEq, Nat.reduceLeDiff, Nat.reduceLT, Nat.reduceMul, Nat.reduceAdd, String.reduceEq]
  refine hQ .normal _ ?_; clear hQ Q
  refine TS.seq (TS.of [] fun Q hQ => ?_)
  simp only [go_sem, Nat.reduceEqDiff, Nat.reduceBEq, Int.reduceToNat, Int.reduceLT, Int.reduceLE, Int.reduceEq, Nat.reduceLeDiff, Nat.reduceLT, Nat.reduceMul, Nat.reduceAdd, String.reduceEq]
  refine cal_eq (h1 _) ?_
  simp only [go_sem, Nat.reduceEqDiff, Nat.reduceBEq, Int.reduceToNat, Int.reduceLT, Int.reduceLE, Int.reduceEq, Nat.reduceLeDiff, Nat.reduceLT, Nat.reduceMul, Nat.reduceAdd, String.reduceEq, encD]
  refine hQ .normal _ ?_; clear hQ Q
  refine TS.seq (TS.of [] fun Q hQ => ?_)
  simp only [go_sem, Nat.reduceEqDiff, Nat.reduceBEq, Int.reduceToNat, Int.reduceLT, Int.reduceLE, Int.reduceEq, Nat.reduceLeDiff, Nat.reduceLT, Nat.reduceMul, Nat.reduceAdd, String.reduceEq]
  refine hQ .normal _ ?_; clear hQ Q
  refine TS.seq (TS.of [] fun Q hQ => ?_)
  simp only [go_sem, Nat.reduceEqDiff, Nat.reduceBEq, Int.reduceToNat, Int.reduceLT, Int.reduceLE, Int.reduceEq, Nat.reduceLeDiff, Nat.reduceLT, Nat.reduceMul, Nat.reduceAdd, String.reduceEq, encD]
  refine cal_eq (ka _) ?_
  simp only [go_sem, Nat.reduceEqDiff, Nat.reduceBEq, Int.reduceToNat, Int.reduceLT, Int.reduceLE, Int.reduceEq, Nat.reduceLeDiff, Nat.reduceLT, Nat.reduceMul, Nat.reduceAdd, String.reduceEq, ints_one, ints_sh, ml60 l60]
  refine hQ .normal _ ?_; clear hQ Q
  refine TS.seq (TS.of [] fun Q hQ => ?_)
  simp only [go_sem, Nat.reduceEqDiff, Nat.reduceBEq, Int.reduceToNat, Int.reduceLT, Int.reduceLE, Int.reduceEq, Nat.reduceLeDiff, Nat.reduceLT, Nat.reduceMul, Nat.reduceAdd, String.reduceEq, ints_one, ints_sh, ml60 l60, le60 l60, tk60 l60, List.append_nil]
  refine hQ .normal _ ?_; clear hQ Q
  have hm := oC_map a b
  rw [e4] at hm
  by_cases hb : b = 0
  · subst hb
    have x0 : o0 a 0 = 0 := by rw [o0, if_pos rfl]
    have x1 : o1 a 0 = 0 := by rw [o1, if_pos rfl]
    have x2 : o2 a 0 = 0 := by rw [o2, x0, x1]; simp; decide
    rw [x0, x1, x2] at hm
    refine TS.of [] fun Q hQ => ?_
    simp only [go_sem, Nat.reduceEqDiff, Nat.reduceBEq, Int.reduceToNat, Int.reduceLT, Int.reduceLE, Int.reduceEq, Nat.reduceLeDiff, Nat.reduceLT, Nat.reduceMul, Nat.reduceAdd, String.reduceEq, errE_0, hm, o3, List.append_nil]
    refine hQ .ret _ ?_; clear hQ Q; refine post_ret _ _ (bb true) ?_ rfl (DropW.tail0 _ rfl) ⟨rfl, rfl⟩
    simp only [go_sem, Nat.reduceEqDiff, Nat.reduceBEq, Int.reduceToNat, Int.reduceLT, Int.reduceLE, Int.reduceEq, Nat.reduceLeDiff, Nat.reduceLT, Nat.reduceMul, Nat.reduceAdd, String.reduceEq]
  have x2 := o2_eq (b := b) ha0 ha1 hb
  have x1 := o1_sign (b := b) ha0 ha1 hb
  rw [x2] at hm
  generalize o1 a b = c1 at hm x1
  by_cases hc : c1 = 0
  · subst hc
    refine TS.of [] fun Q hQ => ?_
    simp only [go_sem, Nat.reduceEqDiff, Nat.reduceBEq, Int.reduceToNat, Int.reduceLT, Int.reduceLE, Int.reduceEq, Nat.reduceLeDiff, Nat.reduceLT, Nat.reduceMul, Nat.reduceAdd, String.reduceEq, errE_0, hm, o3, List.append_nil, eq_false hb]
    refine hQ .ret _ ?_; clear hQ Q; refine post_ret _ _ (bb true) ?_ rfl (DropW.tail0 _ rfl) ⟨rfl, rfl⟩
    simp only [go_sem, Nat.reduceEqDiff, Nat.reduceBEq, Int.reduceToNat, Int.reduceLT, Int.reduceLE, Int.reduceEq, Nat.reduceLeDiff, Nat.reduceLT, Nat.reduceMul, Nat.reduceAdd, String.reduceEq]
  · have x3 : c1 < 0 ↔ a < 0 := by rcases x1 with h | h; exact absurd h hc; exact h
    refine TS.of [] fun Q hQ => ?_
    simp only [go_sem, Nat.reduceEqDiff, Nat.reduceBEq, Int.reduceToNat, Int.reduceLT, Int.reduceLE, Int.reduceEq, Nat.reduceLeDiff, Nat.reduceLT, Nat.reduceMul, Nat.reduceAdd, String.reduceEq, errE_0, hm, o3, List.append_nil, eq_false hb, eq_false hc, x3]
    refine hQ .ret _ ?_; clear hQ Q; refine post_ret _ _ (bb true) ?_ rfl (DropW.tail0 _ rfl) ⟨rfl, rfl⟩
    simp only [go_sem, Nat.reduceEqDiff, Nat.reduceBEq, Int.reduceToNat, Int.reduceLT, Int.reduceLE, Int.reduceEq, Nat.reduceLeDiff, Nat.reduceLT, Nat.reduceMul, Nat.reduceAdd, String.reduceEq]
end Go.Proofs.Ytphjldhdnmoolaa.A
/- The walks of some functions over the abstract machine. -/
namespace Go.Proofs.Ytphjldhdnmoolaa.A
open Go
/-! EvalNeeds -/
def v3 : Bytes := ⟨#[111, 112, 32, 111, 40, 110, 44, 32, 118, 41, 32, 123, 32, 110, 101, 101, 100, 32, 91, 53, 93, 32, 61, 61, 32, 110, 59, 32, 110, 101, 101, 100, 32, 91, 54, 93, 32, 61, 61, 32, 48, 59, 32, 91, 53, 93, 32, 61, 32, 118, 59, 32, 91, 54, 93, 32, 60, 62, 32, 91, 53, 93, 59, 32, 103, 105, 118, 101, 32, 91, 54, 93, 32, 45, 32, 91, 53, 93, 59, 32, 125]⟩
set_option maxRecDepth 100000
theorem v3_code : (parse v3).2.1 = 0 := by rw [parse_Q]; kernel_rfl
def nC (w nw : Int) : List Int := (((zeros.set 5 w).set 5 nw).set 6 nw).set 5 0
theorem v3_chk : (check (parse v3).1).2 = none := by rw [parse_Q]; kernel_rfl
theorem v3_par : (parse v3).1.params.length = 2 := by rw [parse_Q]; kernel_rfl
theorem v3_n (w nd nw : Int) : needsP (parse v3).1.needs (rs0 (parse v3).1 0 (zeros.set 5 w) [nd, nw]) = if bit (decide (w = nd)) = 0 then some false else some true := by rw [parse_Q]; kernel_rfl
theorem v3_b (w nd nw : Int) : ((runB (parse v3).1.body (rs0 (parse v3).1 0 (zeros.set 5 w) [nd, nw])).bind fun r => (giveP (parse v3).1.give 0 r).map fun n => (⟨r.lsn, r.cs, n, 0⟩ : RunR)) = some ⟨0, nC w nw, w64 (nw - 0), 0⟩ := by rw [parse_Q]; kernel_rfl
theorem runP_of {d : Def} {lsn : Int} {cs args : List Int} {x : RunR} (h1 : (check d).2 = none) (h2 : args.length = d.params.length) (h3 : needsP d.needs (rs0 d lsn cs args) = some true) (h4 : ((runB d.body (rs0 d lsn cs args)).bind fun r => (giveP d.give 0 r).map fun n => (⟨r.lsn, r.cs, n, 0⟩ : RunR)) = some x) : runP d lsn cs args = some x := by
  unfold runP; rw [h1, if_neg (by simp), if_neg (by simpa using h2), h3, Option.bind_some, if_pos rfl]; exact h4
theorem runP_no {d : Def} {lsn : Int} {cs args : List Int} (h1 : (check d).2 = none) (h2 : args.length = d.params.length) (h3 : needsP d.needs (rs0 d lsn cs args) = some false) : runP d lsn cs args = some (fault0 12) := by
  unfold runP; rw [h1, if_neg (by simp), if_neg (by simpa using h2), h3, Option.bind_some, if_neg (by simp)]
theorem v3_run (w nd nw : Int) : runP (parse v3).1 0 (zeros.set 5 w) [nd, nw] = if w = nd then some ⟨0, nC w nw, w64 (nw - 0), 0⟩ else some (fault0 12) := by
  have hn := v3_n w nd nw
  by_cases h : w = nd
  · rw [decide_eq_true h, if_neg (by decide)] at hn
    rw [if_pos h]
    exact runP_of v3_chk (by rw [v3_par]; rfl) hn (v3_b w nd nw)
  · rw [decide_eq_false h, if_pos (by decide)] at hn
    rw [if_neg h]
    exact runP_no v3_chk (by rw [v3_par]; rfl) hn
theorem nC_len (w nw : Int) : (nC w nw).length = 60 := by simp [nC, zeros]
theorem nC_map (w nw : Int) : (nC w nw).map (IV.v <| .int .i64 ·) = ii 0 :: ii 0 :: ii 0 :: ii 0 :: ii 0 :: ii 0 :: ii nw :: (List.replicate 53 0).map (IV.v <| .int .i64 ·) := rfl
theorem w5_map (w : Int) : (ii 0 :: (zeros.set 5 w).map (IV.v <| .int .i64 ·)) = ii 0 :: ii 0 :: ii 0 :: ii 0 :: ii 0 :: ii 0 :: ii w :: (List.replicate 54 0).map (IV.v <| .int .i64 ·) := rfl
set_option maxRecDepth 100000 in
set_option maxHeartbeats 4000000 in
theorem needs_law (m : Mem) (w nw nd : Int) (h0 : -9223372036854775808 ≤ nw) (h1 : nw < 9223372036854775808) : Sim 18 [ii w, ii nw, ii nd] m (fun r m' => r = bb true ∧ m' = m) := by
  have hp := fun m => parse_sim m v3 (by decide)
  have hr := v3_run w nd nw
  have hw : w64 (nw - 0) = nw := w64_eq (k := 0) h0 h1 (by omega)
  rw [hw] at hr
  have ka := fun m r hr => parse_run v3_code m 0 (zeros.set 5 w) (by simp [zeros]) [nd, nw] r hr
  rw [v3_code] at hp
  generalize (parse v3).2.2 = pl at hp
  generalize (parse v3).1 = D at hp ka hr
  refine Sim.ofS 72 [.tmp 6] Try.func18 rfl rfl rfl (by simp) fun wr => ?_
  simp only [go_sem, Nat.reduceEqDiff, Nat.reduceBEq, Int.reduceToNat, Int.reduceLT, Int.reduceLE, Int.reduceEq, Nat.reduceLeDiff, Nat.reduceLT, Nat.reduceMul, Nat.reduceAdd, String.reduceEq]
  refine TS.seq (TS.of [] fun Q hQ => ?_)
  simp only [go_sem, Nat.reduceEqDiff, Nat.reduceBEq, Int.reduceToNat, Int.reduceLT, Int.reduceLE, Int.reduceEq, Nat.reduceLeDiff, Nat.reduceLT, Nat.reduceMul, Nat.reduceAdd, String.reduceEq]
  refine hQ .normal _ ?_; clear hQ Q
  refine TS.seq (TS.of [] fun Q hQ => ?_)
  simp only [go_sem, Nat.reduceEqDiff, Nat.reduceBEq, Int.reduceToNat, Int.reduceLT, Int.reduceLE, Int.reduceEq, Nat.reduceLeDiff, Nat.reduceLT, Nat.reduceMul, Nat.reduceAdd, String.reduceEq]
  refine cal_eq (alive9_sim _) ?_
  simp only [go_sem, Nat.reduceEqDiff, Nat.reduceBEq, Int.reduceToNat, Int.reduceLT, Int.reduceLE, Int.reduceEq, Nat.reduceLeDiff, Nat.reduceLT, Nat.reduceMul, Nat.reduceAdd, String.reduceEq]
  refine hQ .normal _ ?_; clear hQ Q
  refine TS.seq (TS.of [] fun Q hQ => ?_)
  simp only [go_sem, Nat.reduceEqDiff, Nat.reduceBEq, Int.reduceToNat, Int.reduceLT, Int.reduceLE, Int.reduceEq, Nat.reduceLeDiff, Nat.reduceLT, Nat.reduceMul, Nat.reduceAdd, String.reduceEq]
  refine cal_eq (hp _) ?_
  simp only [go_sem, Nat.reduceEqDiff, Nat.reduceBEq, Int.reduceToNat, Int.reduceLT, Int.reduceLE, Int.reduceEq, Nat.reduceLeDiff, Nat.reduceLT, Nat.reduceMul, Nat.reduceAdd, String.reduceEq, encD]
  refine hQ .normal _ ?_; clear hQ Q
  refine TS.seq (TS.of [] fun Q hQ => ?_)
  simp only [go_sem, Nat.reduceEqDiff, Nat.reduceBEq, Int.reduceToNat, Int.reduceLT, Int.reduceLE, Int.reduceEq, Nat.reduceLeDiff, Nat.reduceLT, Nat.reduceMul, Nat.reduceAdd, String.reduceEq]
  refine hQ .normal _ ?_; clear hQ Q
  refine TS.seq (TS.of [] fun Q hQ => ?_)
  simp only [go_sem, Nat.reduceEqDiff, Nat.reduceBEq, Int.reduceToNat, Int.reduceLT, Int.reduceLE, Int.reduceEq, Nat.reduceLeDiff, Nat.reduceLT, Nat.reduceMul, Nat.reduceAdd, String.reduceEq]
  refine hQ .normal _ ?_; clear hQ Q
  refine TS.seq (TS.of [] fun Q hQ => ?_)
  simp only [go_sem, Nat.reduceEqDiff, Nat.reduceBEq, Int.reduceToNat, Int.reduceLT, Int.reduceLE, Int.reduceEq, Nat.reduceLeDiff, Nat.reduceLT, Nat.reduceMul, Nat.reduceAdd, String.reduceEq]
  refine hQ .normal _ ?_; clear hQ Q
  by_cases h : w = nd
  · rw [if_pos h] at hr
    subst h
    have kb := fun m => ka m _ hr
    have l60 := nC_len w nw
    refine TS.seq (TS.of [] fun Q hQ => ?_)
    simp only [go_sem, Nat.reduceEqDiff, Nat.reduceBEq, Int.reduceToNat, Int.reduceLT, Int.reduceLE, Int.reduceEq, Nat.reduceLeDiff, Nat.reduceLT, Nat.reduceMul, Nat.reduceAdd, String.reduceEq, encD]
    refine cal_eq (kb _) ?_
    simp only [go_sem, Nat.reduceEqDiff, Nat.reduceBEq, Int.reduceToNat, Int.reduceLT, Int.reduceLE, Int.reduceEq, Nat.reduceLeDiff, Nat.reduceLT, Nat.reduceMul, Nat.reduceAdd, String.reduceEq, ints_one, ints_sh, ml60 l60]
    refine hQ .normal _ ?_; clear hQ Q
    have hm := nC_map w nw
    refine TS.of [] fun Q hQ => ?_
    simp only [go_sem, Nat.reduceEqDiff, Nat.reduceBEq, Int.reduceToNat, Int.reduceLT, Int.reduceLE, Int.reduceEq, Nat.reduceLeDiff, Nat.reduceLT, Nat.reduceMul, Nat.reduceAdd, String.reduceEq, errE_0, hm, List.append_nil]
    refine hQ .ret _ ?_; clear hQ Q; refine post_ret _ _ (bb true) ?_ rfl (DropW.tail0 _ rfl) ⟨rfl, rfl⟩
    simp only [go_sem, Nat.reduceEqDiff, Nat.reduceBEq, Int.reduceToNat, Int.reduceLT, Int.reduceLE, Int.reduceEq, Nat.reduceLeDiff, Nat.reduceLT, Nat.reduceMul, Nat.reduceAdd, String.reduceEq]
  · rw [if_neg h] at hr
    have kb := fun m => ka m _ hr
    refine TS.seq (TS.of [] fun Q hQ => ?_)
    simp only [go_sem, Nat.reduceEqDiff, Nat.reduceBEq, Int.reduceToNat, Int.reduceLT, Int.reduceLE, Int.reduceEq, Nat.reduceLeDiff, Nat.reduceLT, Nat.reduceMul, Nat.reduceAdd, String.reduceEq, encD]
    refine cal_eq (kb _) ?_
    simp only [go_sem, Nat.reduceEqDiff, Nat.reduceBEq, Int.reduceToNat, Int.reduceLT, Int.reduceLE, Int.reduceEq, Nat.reduceLeDiff, Nat.reduceLT, Nat.reduceMul, Nat.reduceAdd, String.reduceEq, ints_one, ints_sh, ml60 z60]
    refine hQ .normal _ ?_; clear hQ Q
    refine TS.of [] fun Q hQ => ?_
    simp only [go_sem, Nat.reduceEqDiff, Nat.reduceBEq, Int.reduceToNat, Int.reduceLT, Int.reduceLE, Int.reduceEq, Nat.reduceLeDiff, Nat.reduceLT, Nat.reduceMul, Nat.reduceAdd, String.reduceEq, errE_12, List.append_nil, eq_false h, zero_page, ints_pg, z60, le60 z60, tk60 z60, ints_sh]
    refine hQ .ret _ ?_; clear hQ Q; refine post_ret _ _ (bb true) ?_ rfl (DropW.tail0 _ rfl) ⟨rfl, rfl⟩
    simp only [go_sem, Nat.reduceEqDiff, Nat.reduceBEq, Int.reduceToNat, Int.reduceLT, Int.reduceLE, Int.reduceEq, Nat.reduceLeDiff, Nat.reduceLT, Nat.reduceMul, Nat.reduceAdd, String.reduceEq]
end Go.Proofs.Ytphjldhdnmoolaa.A
/- For every input EvalNeeds answers true: needs ahead of all, what is given behind all. -/
namespace Go.Proofs.Ytphjldhdnmoolaa.evalNeeds
open Go Go.ChangeShapes Go.WideShapes Go.ChangeAt Go.RowKit Go.Joins Go.Proofs.Ytphjldhdnmoolaa.A
set_option maxRecDepth 100000 in
theorem lifted (os : Os) (started : os.Started) (H : Type) (enc : TypeId × Value → H) :
    ReturnsInHanded {} Try.checked os 18 .any (Rows.evalNeedsSpec.pre6 enc Try.prog Try.f18 Rows.evalNeedsRow.domain false) (Rows.evalNeedsSpec.post enc Try.prog Try.f18 false true false false) := by
  refine returnsInHanded_of_change_sized (C := Try.checked) own started (by kernel_rfl) Try.func18
    (ChangeSpec.witness6 (enc := enc) (C := Try.checked) false ⟨#[], #[.int .i64 0, .int .i64 0, .int .i64 0], []⟩ 8 (by kernel_rfl) (by kernel_rfl) (by kernel_rfl) (by kernel_rfl)) ?_
  intro W base args ds gs before hval0 hW hcnd hsz0 _
  have hsz : (DataW.weightsEach Try.prog (Try.f18.params.toList ++ Rows.evalNeedsSpec.plain.varTypes Try.prog) (ds ++ gs)).all (· ≤ reachBytes) = true := hsz0
  have hval : ∀ (j : Nat) t v, Try.f18.params[j]? = some t → args[j]? = some v → Value.okWide Try.prog W .any base t v := hval0
  have hW' := hW
  obtain ⟨p, q, hA0, hV, rfl, hfz, hnd⟩ := hW
  have hA : DataW.TrodAll enc Try.prog W 0 (fun _ => true) true Try.f18.params.toList args.toList ds p := hA0
  rw [Try.params18] at hA hval hsz
  obtain ⟨v0, vs0, d0, ds0, p0, q0, hargs, rfl, rfl, h0, r0⟩ := trodAll_cons hA
  obtain ⟨v1, vs1, d1, ds1, p1, q1, rfl, rfl, rfl, h1, r1⟩ := trodAll_cons r0
  obtain ⟨v2, vs2, d2, ds2, p2, q2, rfl, rfl, rfl, h2, r2⟩ := trodAll_cons r1
  obtain ⟨rfl, rfl, rfl⟩ := trodAll_nil r2
  obtain rfl : args = #[v0, v1, v2] := by cases args; simp_all
  obtain ⟨rfl, rfl⟩ := trodVars_none hV
  obtain ⟨a0, rfl, rfl, rfl, w0⟩ := open_int Try.underlying3 (hval 0 3 v0 rfl rfl) h0
  obtain ⟨a1, rfl, rfl, rfl, w1⟩ := open_int Try.underlying3 (hval 1 3 v1 rfl rfl) h1
  obtain ⟨a2, rfl, rfl, rfl, w2⟩ := open_int Try.underlying3 (hval 2 3 v2 rfl rfl) h2
  clear hA0 hval0 hsz0
  refine (calls_of_sim (needs_law _ _ _ _ (int_wf w1).1 (by have := (int_wf w1).2; omega)) (relL_cons (rel_v _ _ _) (relL_cons (rel_v _ _ _) (relL_cons (rel_v _ _ _) (relL_nil _ _))))).mono fun e W' ⟨he, bel⟩ => ?_
  subst he
  exact ⟨_, rfl, _, _, _, [], _, [], hW', trodAll_mk1 (shut_bool Try.underlying4 _), (trodAll_cons_mk (shut_int Try.underlying3 w0) (trodAll_cons_mk (shut_int Try.underlying3 w1) (trodAll_cons_mk (shut_int Try.underlying3 w2) trodAll_mk0))), rfl, bel.frame _, fun h => by cases h⟩
set_option maxRecDepth 100000
theorem rec1 : Try.prog.recurses 18 = true := fact_recurses 18 90 (by kernel_rfl) (by kernel_rfl) (by kernel_rfl)
theorem q0 : (Rows.evalNeedsRow.wf (OpenSpec.ofChange Rows.evalNeedsSpec)) = true := by kernel_rfl
theorem q3 : (Try.f18.params.all (Try.prog.readableRec ·)) = true := by kernel_rfl
theorem q4 : (namedTie Try.prog Rows.evalNeedsRow.named Rows.evalNeedsSpec.vars) = true := by kernel_rfl
theorem q5 : (Rows.evalNeedsRow.stops == []) = true := by kernel_rfl
theorem q7 : (Rows.evalNeedsRow.knobs == []) = true := by kernel_rfl
theorem q9 : (Rows.evalNeedsRow.inPlace == Try.prog.inPlace 18) = true := by kernel_rfl
theorem q10 : (Rows.evalNeedsRow.unfollowed == Try.prog.unfollowed 18) = true := by kernel_rfl
theorem q11 : (Rows.evalNeedsRow.recurses == Try.prog.recurses 18) = true := by rw [rec1]; kernel_rfl
theorem q12 : (Rows.evalNeedsRow.named == Try.prog.varsNamed 18) = true := by kernel_rfl
theorem q13 : (Rows.evalNeedsRow.maps == (Try.f18.params.toList ++ Rows.evalNeedsSpec.plain.varTypes Try.prog).any (Try.prog.mapsRec ·)) = true := by kernel_rfl
theorem q14 : (Rows.evalNeedsRow.ifaces == (Try.f18.params.toList ++ Rows.evalNeedsSpec.plain.varTypes Try.prog).any (Try.prog.ifacesRec ·)) = true := by kernel_rfl
theorem q15 : (Rows.evalNeedsRow.mapsOut == Try.prog.mapsAmong Try.f18.resultTypes.toList) = true := by kernel_rfl
theorem q16 : (Rows.evalNeedsRow.loops == (Try.f18.params.toList ++ Rows.evalNeedsSpec.plain.varTypes Try.prog).any (Try.prog.loopsFrom ·)) = true := by kernel_rfl
theorem q17 : (Rows.evalNeedsRow.wideKeys == (Try.f18.params.toList ++ Rows.evalNeedsSpec.plain.varTypes Try.prog ++ Try.f18.resultTypes.toList).any (Try.prog.wideKeysFrom ·)) = true := by kernel_rfl
theorem q18 : (Rows.evalNeedsSpec.vars.all (Try.prog.varReadable ·)) = true := by kernel_rfl
theorem q19 : (Try.f18.resultTypes.all (fun t => Try.prog.readableRec t && decide (t < Try.prog.types.size))) = true := by kernel_rfl
theorem q20 : (Rows.evalNeedsRow.ifacesOut == Try.f18.resultTypes.toList.any (Try.prog.ifacesRec ·)) = true := by kernel_rfl
theorem q21 : (Rows.evalNeedsRow.loopsOut == Try.f18.resultTypes.toList.any (Try.prog.loopsFrom ·)) = true := by kernel_rfl
theorem q23 : (Rows.evalNeedsRow.shortTexts.isNone) = true := by kernel_rfl
theorem q28 : (Rows.evalNeedsRow.kinds == (if Rows.evalNeedsRow.domain.isEmpty then [] else Try.f18.params.toList.map fun t => match Try.prog.underlying t with | some (.int k) => some k | _ => none)) = true := by kernel_rfl
theorem q29 : (Rows.evalNeedsRow.pinned == Rows.evalNeedsRow.pinnedBy) = true := by kernel_rfl
theorem q30 : (Rows.evalNeedsRow.veiled == (Try.f18.params.toList ++ Rows.evalNeedsSpec.plain.varTypes Try.prog ++ Try.f18.resultTypes.toList).any (Try.prog.veiledRec ·)) = true := by kernel_rfl
theorem q31 : (Rows.evalNeedsRow.veiledFits Try.prog Try.f18.params.toList (Try.f18.params.toList ++ Rows.evalNeedsSpec.plain.varTypes Try.prog ++ Try.f18.resultTypes.toList)) = true := by kernel_rfl
theorem joined : joinedFacts Try.prog 18 Try.f18 Rows.evalNeedsSpec Rows.evalNeedsRow = true := (and2 (and2 (and2 (and2 (and2 (and2 (and2 (and2 (and2 (and2 (and2 (and2 (and2 (and2 (and2 (and2 (and2 (and2 (and2 (and2 (and2 (and2 (and2 (and2 (and2 (and2 (and2 (and2 (and2 (and2 (and2 q0 fact_laid) fact_maps) q3) q4) q5) fact_stops) q7) fact_knobs) q9) q10) q11) q12) q13) q14) q15) q16) q17) q18) q19) q20) q21) fact_keys) q23) fact_heard) fact_enter) fact_lifted) fact_make) q28) q29) q30) q31)
theorem over : Rows.evalNeedsRow.holds Try.pinned (OpenSpec.ofChange Rows.evalNeedsSpec) :=
  OpenClaim.holds_of_wide 18 Try.f18 rfl rfl rfl rfl rfl rfl rfl ⟨rfl, rfl, rfl, rfl, rfl⟩ rfl rfl rfl rfl rfl (by kernel_rfl) Try.func18 joined
    (of_decide_eq_true (by kernel_rfl)) (by unfold Func.isWrapper; first | (rw [if_pos (by decide +kernel)]; kernel_rfl) | (rw [if_neg (by decide +kernel)]; exact ⟨rfl, rfl⟩))
    (fun os started H enc _ => lifted os started H enc)
theorem proved : Rows.EvalNeedsSaid := over
#print axioms proved
end Go.Proofs.Ytphjldhdnmoolaa.evalNeeds
namespace Go.Proofs.Ytphjldhdnmoolaa
/-- The row, under a short name, for the claim. -/
theorem evalNeeds_holds : Rows.EvalNeedsSaid := evalNeeds.proved
end Go.Proofs.Ytphjldhdnmoolaa
