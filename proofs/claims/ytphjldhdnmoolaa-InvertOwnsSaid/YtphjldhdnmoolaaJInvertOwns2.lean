/- Joined: B9, B10, B11, B12, B13, B14, B15, B16, B17, B18, B19, B20 -/
import Derived.Test.YtphjldhdnmoolaaJInvertOwns1
set_option linter.unusedVariables false
set_option linter.unusedSimpArgs false
/- The walks of some functions over the abstract machine. -/
namespace Go.Proofs.Ytphjldhdnmoolaa.A
open Go
theorem Expr.k_mk {k n s a p} : (Expr.mk k n s a p).k = k := rfl
theorem Expr.n_mk {k n s a p} : (Expr.mk k n s a p).n = n := rfl
theorem Expr.s_mk {k n s a p} : (Expr.mk k n s a p).s = s := rfl
theorem Expr.a_mk {k n s a p} : (Expr.mk k n s a p).a = a := rfl
theorem Expr.p_mk {k n s a p} : (Expr.mk k n s a p).p = p := rfl
def enough (l : List Tok) (p : Int) (cn c f : Nat) : Prop := (p < 0 → cn ≤ f) ∧ (0 ≤ p → 4 * ((l.length : Int) - p) + c ≤ f)
def ES (l : List Tok) (f : Nat) : Prop := ∀ (m : Mem) (p least depth : Int), okA l p → enough l p 2 4 f → 0 ≤ depth → depth + f ≤ 5000000 → 0 ≤ least → least ≤ 100 → Sim 75 [slK l, ii p, ii least, ii depth] m (fun r m' => r = .tup [.agg (encE (exprF l f p least depth).1), ii (exprF l f p least depth).2] ∧ m' = m)
def SS (l : List Tok) (f : Nat) : Prop := ∀ (m : Mem) (p depth : Int), okA l p → enough l p 1 3 f → 0 ≤ depth → depth + f ≤ 5000000 → Sim 90 [slK l, ii p, ii depth] m (fun r m' => r = .tup [.agg (encE (smallF l f p depth).1), ii (smallF l f p depth).2] ∧ m' = m)
def AS (l : List Tok) (f : Nat) : Prop := ∀ (m : Mem) (p depth : Int) (a b : Bytes), okA l p → enough l p 3 2 f → 0 ≤ depth → depth + f ≤ 5000000 → Sim 101 [slK l, ii p, ii depth, ss a, ss b] m (fun r m' => r = .tup [.agg (encE (aroundF l f p depth a b).1), ii (aroundF l f p depth a b).2] ∧ m' = m)
set_option maxRecDepth 100000 in
set_option maxHeartbeats 4000000 in
theorem around_step {l : List Tok} (T : Toks l) {f : Nat} (ih : ES l f) : AS l (f + 1) := by
  intro m p depth a b ho hen hd0 hd1
  have hp := ho
  obtain ⟨h1, h2⟩ := ho
  have hl := T.lt
  refine Sim.ofS 41 [.cell 10 99, .tmp 11] Try.func101 rfl rfl rfl (by simp) fun wr => ?_
  simp only [go_sem, Nat.reduceEqDiff, Nat.reduceBEq, Int.reduceToNat, Int.reduceLT, Int.reduceLE, Int.reduceEq, Nat.reduceLeDiff, Nat.reduceLT, Nat.reduceMul, Nat.reduceAdd, String.reduceEq]
  by_cases hc : (decide (12 ≤ depth) && isP l p a) = true
  · simp only [Bool.and_eq_true, decide_eq_true_eq] at hc
    refine TS.of [] fun Q hQ => ?_
    simp only [go_sem, Nat.reduceEqDiff, Nat.reduceBEq, Int.reduceToNat, Int.reduceLT, Int.reduceLE, Int.reduceEq, Nat.reduceLeDiff, Nat.reduceLT, Nat.reduceMul, Nat.reduceAdd, String.reduceEq, hc]
    refine cal_eq (is_sim _ l p a h2) ?_
    simp only [go_sem, Nat.reduceEqDiff, Nat.reduceBEq, Int.reduceToNat, Int.reduceLT, Int.reduceLE, Int.reduceEq, Nat.reduceLeDiff, Nat.reduceLT, Nat.reduceMul, Nat.reduceAdd, String.reduceEq, hc]
    refine cal_eq (bad_sim _ p (by omega)) ?_
    simp only [go_sem, Nat.reduceEqDiff, Nat.reduceBEq, Int.reduceToNat, Int.reduceLT, Int.reduceLE, Int.reduceEq, Nat.reduceLeDiff, Nat.reduceLT, Nat.reduceMul, Nat.reduceAdd, String.reduceEq]
    refine hQ .ret _ ?_; clear hQ Q; refine post_ret _ _ (.tup [.agg (encE E0), ii (bad p)]) ?_ ?_ (DropW.tail0 _ rfl) ⟨?_, rfl⟩
    · simp only [go_sem, Nat.reduceEqDiff, Nat.reduceBEq, Int.reduceToNat, Int.reduceLT, Int.reduceLE, Int.reduceEq, Nat.reduceLeDiff, Nat.reduceLT, Nat.reduceMul, Nat.reduceAdd, String.reduceEq, encE_eq] <;> rfl
    · simp [IV.np, npL, npE]
    · rw [aroundF, if_pos (by simp [hc])]
  · have hgo : aroundF l (f + 1) p depth a b = ((exprF l f (eatP l p a) 1 (depth + 1)).1, eatP l (exprF l f (eatP l p a) 1 (depth + 1)).2 b) := by rw [aroundF, if_neg hc]
    have he := eatP_adv T (t := a) hp
    have hx := (expr_adv T f).1 (eatP l p a) 1 (depth + 1) he.1
    have hw : IntKind.i64.wrap (depth + 1) = depth + 1 := wrap_small (by omega) (by omega)
    have hsub := fun m => ih m (eatP l p a) 1 (depth + 1) he.1 (by unfold enough adv okA at *; omega) (by omega) (by omega) (by omega) (by omega)
    generalize exprF l f (eatP l p a) 1 (depth + 1) = X at hgo hx hsub
    refine TS.of [] fun Q hQ => ?_
    by_cases hd : 12 ≤ depth
    · have hi : isP l p a = false := by simpa [hd] using hc
      simp only [go_sem, Nat.reduceEqDiff, Nat.reduceBEq, Int.reduceToNat, Int.reduceLT, Int.reduceLE, Int.reduceEq, Nat.reduceLeDiff, Nat.reduceLT, Nat.reduceMul, Nat.reduceAdd, String.reduceEq, hd]
      refine cal_eq (is_sim _ l p a h2) ?_
      simp only [go_sem, Nat.reduceEqDiff, Nat.reduceBEq, Int.reduceToNat, Int.reduceLT, Int.reduceLE, Int.reduceEq, Nat.reduceLeDiff, Nat.reduceLT, Nat.reduceMul, Nat.reduceAdd, String.reduceEq, hi]
      refine cal_eq (eat_sim _ l p a hp hl) ?_
      simp only [go_sem, Nat.reduceEqDiff, Nat.reduceBEq, Int.reduceToNat, Int.reduceLT, Int.reduceLE, Int.reduceEq, Nat.reduceLeDiff, Nat.reduceLT, Nat.reduceMul, Nat.reduceAdd, String.reduceEq, hw]
      refine cal_eq (hsub _) ?_
      simp only [go_sem, Nat.reduceEqDiff, Nat.reduceBEq, Int.reduceToNat, Int.reduceLT, Int.reduceLE, Int.reduceEq, Nat.reduceLeDiff, Nat.reduceLT, Nat.reduceMul, Nat.reduceAdd, String.reduceEq, encE_eq]
      refine drn_of ⟨[], [], []⟩ [0, 0, 0, 0, 14, 31, 63] (by kernel_rfl) ?_
      simp only [go_sem, Nat.reduceEqDiff, Nat.reduceBEq, Int.reduceToNat, Int.reduceLT, Int.reduceLE, Int.reduceEq, Nat.reduceLeDiff, Nat.reduceLT, Nat.reduceMul, Nat.reduceAdd, String.reduceEq, encE_eq]
      refine cald_eq (eat_sim _ l X.2 b hx.1 hl) ?_
      simp only [go_sem, Nat.reduceEqDiff, Nat.reduceBEq, Int.reduceToNat, Int.reduceLT, Int.reduceLE, Int.reduceEq, Nat.reduceLeDiff, Nat.reduceLT, Nat.reduceMul, Nat.reduceAdd, String.reduceEq, encE_eq]
      refine hQ .ret _ ?_; clear hQ Q; refine post_ret _ _ (.tup [.agg (encE X.1), ii (eatP l X.2 b)]) ?_ ?_ (DropW.tail0 _ rfl) ⟨?_, rfl⟩
      · simp only [go_sem, Nat.reduceEqDiff, Nat.reduceBEq, Int.reduceToNat, Int.reduceLT, Int.reduceLE, Int.reduceEq, Nat.reduceLeDiff, Nat.reduceLT, Nat.reduceMul, Nat.reduceAdd, String.reduceEq, encE_eq] <;> rfl
      · simp [IV.np, npL, npE]
      · rw [hgo]
    · simp only [go_sem, Nat.reduceEqDiff, Nat.reduceBEq, Int.reduceToNat, Int.reduceLT, Int.reduceLE, Int.reduceEq, Nat.reduceLeDiff, Nat.reduceLT, Nat.reduceMul, Nat.reduceAdd, String.reduceEq, hd]
      refine cal_eq (eat_sim _ l p a hp hl) ?_
      simp only [go_sem, Nat.reduceEqDiff, Nat.reduceBEq, Int.reduceToNat, Int.reduceLT, Int.reduceLE, Int.reduceEq, Nat.reduceLeDiff, Nat.reduceLT, Nat.reduceMul, Nat.reduceAdd, String.reduceEq, hw]
      refine cal_eq (hsub _) ?_
      simp only [go_sem, Nat.reduceEqDiff, Nat.reduceBEq, Int.reduceToNat, Int.reduceLT, Int.reduceLE, Int.reduceEq, Nat.reduceLeDiff, Nat.reduceLT, Nat.reduceMul, Nat.reduceAdd, String.reduceEq, encE_eq]
      refine drn_of ⟨[], [], []⟩ [0, 0, 0, 0, 14, 31, 63] (by kernel_rfl) ?_
      simp only [go_sem, Nat.reduceEqDiff, Nat.reduceBEq, Int.reduceToNat, Int.reduceLT, Int.reduceLE, Int.reduceEq, Nat.reduceLeDiff, Nat.reduceLT, Nat.reduceMul, Nat.reduceAdd, String.reduceEq, encE_eq]
      refine cald_eq (eat_sim _ l X.2 b hx.1 hl) ?_
      simp only [go_sem, Nat.reduceEqDiff, Nat.reduceBEq, Int.reduceToNat, Int.reduceLT, Int.reduceLE, Int.reduceEq, Nat.reduceLeDiff, Nat.reduceLT, Nat.reduceMul, Nat.reduceAdd, String.reduceEq, encE_eq]
      refine hQ .ret _ ?_; clear hQ Q; refine post_ret _ _ (.tup [.agg (encE X.1), ii (eatP l X.2 b)]) ?_ ?_ (DropW.tail0 _ rfl) ⟨?_, rfl⟩
      · simp only [go_sem, Nat.reduceEqDiff, Nat.reduceBEq, Int.reduceToNat, Int.reduceLT, Int.reduceLE, Int.reduceEq, Nat.reduceLeDiff, Nat.reduceLT, Nat.reduceMul, Nat.reduceAdd, String.reduceEq, encE_eq] <;> rfl
      · simp [IV.np, npL, npE]
      · rw [hgo]
set_option maxRecDepth 100000 in
set_option maxHeartbeats 4000000 in
theorem small_step {l : List Tok} (T : Toks l) (hsz : ∀ p, (tk l p).s.size < 900000) {f : Nat} (ihS : SS l f) (ihA : AS l f) : SS l (f + 1) := by
  intro m p depth ho hen hd0 hd1
  have hp := ho
  obtain ⟨h1, h2⟩ := ho
  have hl := T.lt
  refine Sim.ofS 129 [.cell 6 99, .tmp 7] Try.func90 rfl rfl rfl (by simp) fun wr => ?_
  simp only [go_sem, Nat.reduceEqDiff, Nat.reduceBEq, Int.reduceToNat, Int.reduceLT, Int.reduceLE, Int.reduceEq, Nat.reduceLeDiff, Nat.reduceLT, Nat.reduceMul, Nat.reduceAdd, String.reduceEq]
  by_cases h0 : p < 0
  · have hgo : smallF l (f + 1) p depth = (E0, p) := by rw [smallF, if_pos h0]
    refine TS.of [] fun Q hQ => ?_
    simp only [go_sem, Nat.reduceEqDiff, Nat.reduceBEq, Int.reduceToNat, Int.reduceLT, Int.reduceLE, Int.reduceEq, Nat.reduceLeDiff, Nat.reduceLT, Nat.reduceMul, Nat.reduceAdd, String.reduceEq, h0]
    refine hQ .ret _ ?_; clear hQ Q; refine post_ret _ _ (.tup [.agg (encE E0), ii p]) ?_ ?_ (DropW.tail0 _ rfl) ⟨?_, rfl⟩
    · simp only [go_sem, Nat.reduceEqDiff, Nat.reduceBEq, Int.reduceToNat, Int.reduceLT, Int.reduceLE, Int.reduceEq, Nat.reduceLeDiff, Nat.reduceLT, Nat.reduceMul, Nat.reduceAdd, String.reduceEq, encE_eq] <;> rfl
    · simp [IV.np, npL, npE]
    · rw [hgo]
  obtain ⟨n, rfl⟩ := nat_of (p := p) (by omega)
  have hlt : n < l.length := by omega
  have hat := encK_at (tk_at hlt)
  have hl3 := encK_lt hlt
  have h0' : (0 : Int) ≤ (n : Int) := by omega
  have hw : IntKind.i64.wrap ((n : Int) + 1) = (n : Int) + 1 := wrap_small (by omega) (by omega)
  have hwd : IntKind.i64.wrap (depth + 1) = depth + 1 := wrap_small (by omega) (by omega)
  have hq : ¬ (qNot = qSub) := by decide
  have hsign : ∀ t : Bytes, isP l n t = true → (tk l n).s = t := fun t h => (isP_k T h).2.2
  -- behind ! or -
  have hneg : (isP l n qNot || isP l n qSub) = true → okA l ((n : Int) + 1) ∧ enough l ((n : Int) + 1) 1 3 f := by
    intro h
    have : okA l ((n : Int) + 1) := by
      simp only [Bool.or_eq_true] at h
      rcases h with h | h
      · exact (isP_lt T hp h).2
      · exact (isP_lt T hp h).2
    exact ⟨this, by unfold enough okA at *; omega⟩
  have hA2 : enough l (n : Int) 3 2 f := by unfold enough okA at *; omega
  refine TS.of [] fun Q hQ => ?_
  cases hA : isP l n qNot with
  | true =>
    have hts := hsign _ hA
    by_cases hd : 12 ≤ depth
    · have hgo : smallF l (f + 1) n depth = (.mk 0 0 ByteArray.empty [] (tk l n).p, bad n) := by rw [smallF, if_neg h0, if_pos (by simp [hA]), if_pos hd]
      simp only [go_sem, Nat.reduceEqDiff, Nat.reduceBEq, Int.reduceToNat, Int.reduceLT, Int.reduceLE, Int.reduceEq, Nat.reduceLeDiff, Nat.reduceLT, Nat.reduceMul, Nat.reduceAdd, String.reduceEq, h0, h0', hlt, hat, hl3]
      refine cal_eq (is_sim _ l n qNot h2) ?_
      simp only [go_sem, Nat.reduceEqDiff, Nat.reduceBEq, Int.reduceToNat, Int.reduceLT, Int.reduceLE, Int.reduceEq, Nat.reduceLeDiff, Nat.reduceLT, Nat.reduceMul, Nat.reduceAdd, String.reduceEq, hA, hd]
      refine drn_of ⟨[], [], []⟩ [0, 0, 2, 7, 15] (by kernel_rfl) ?_
      simp only [go_sem, Nat.reduceEqDiff, Nat.reduceBEq, Int.reduceToNat, Int.reduceLT, Int.reduceLE, Int.reduceEq, Nat.reduceLeDiff, Nat.reduceLT, Nat.reduceMul, Nat.reduceAdd, String.reduceEq]
      refine cald_eq (bad_sim _ n (by omega)) ?_
      simp only [go_sem, Nat.reduceEqDiff, Nat.reduceBEq, Int.reduceToNat, Int.reduceLT, Int.reduceLE, Int.reduceEq, Nat.reduceLeDiff, Nat.reduceLT, Nat.reduceMul, Nat.reduceAdd, String.reduceEq]
      refine hQ .ret _ ?_; clear hQ Q; refine post_ret _ _ (.tup [.agg (encE (.mk 0 0 ByteArray.empty [] (tk l n).p)), ii (bad n)]) ?_ ?_ (DropW.tail0 _ rfl) ⟨?_, rfl⟩
      · simp only [go_sem, Nat.reduceEqDiff, Nat.reduceBEq, Int.reduceToNat, Int.reduceLT, Int.reduceLE, Int.reduceEq, Nat.reduceLeDiff, Nat.reduceLT, Nat.reduceMul, Nat.reduceAdd, String.reduceEq, encE_eq, Expr.k_mk, Expr.n_mk, Expr.s_mk, Expr.a_mk, Expr.p_mk, encEs, slE] <;> rfl
      · simp [IV.np, npL, npE]
      · rw [hgo]
    · have hgo : smallF l (f + 1) n depth = (.mk 4 0 ByteArray.empty [(smallF l f (n + 1) (depth + 1)).1] (tk l n).p, (smallF l f (n + 1) (depth + 1)).2) := by rw [smallF, if_neg h0, if_pos (by simp [hA]), if_neg hd, if_neg (by rw [hts]; exact hq)]
      have hsub := fun m => ihS m (n + 1) (depth + 1) (hneg (by simp [hA])).1 (hneg (by simp [hA])).2 (by omega) (by omega)
      generalize smallF l f (n + 1) (depth + 1) = X at hgo hsub
      simp only [go_sem, Nat.reduceEqDiff, Nat.reduceBEq, Int.reduceToNat, Int.reduceLT, Int.reduceLE, Int.reduceEq, Nat.reduceLeDiff, Nat.reduceLT, Nat.reduceMul, Nat.reduceAdd, String.reduceEq, h0, h0', hlt, hat, hl3]
      refine cal_eq (is_sim _ l n qNot h2) ?_
      simp only [go_sem, Nat.reduceEqDiff, Nat.reduceBEq, Int.reduceToNat, Int.reduceLT, Int.reduceLE, Int.reduceEq, Nat.reduceLeDiff, Nat.reduceLT, Nat.reduceMul, Nat.reduceAdd, String.reduceEq, hA, hd, show (tk l n).s = ⟨#[33]⟩ from hts, hw, hwd, show ¬ ((⟨#[33]⟩ : ByteArray) = ⟨#[45]⟩) from hq]
      refine cal_eq (hsub _) ?_
      simp only [go_sem, Nat.reduceEqDiff, Nat.reduceBEq, Int.reduceToNat, Int.reduceLT, Int.reduceLE, Int.reduceEq, Nat.reduceLeDiff, Nat.reduceLT, Nat.reduceMul, Nat.reduceAdd, String.reduceEq, encE_eq]
      refine hQ .ret _ ?_; clear hQ Q; refine post_ret _ _ (.tup [.agg (encE (.mk 4 0 ByteArray.empty [X.1] (tk l n).p)), ii X.2]) ?_ ?_ (DropW.tail0 _ rfl) ⟨?_, rfl⟩
      · simp only [go_sem, Nat.reduceEqDiff, Nat.reduceBEq, Int.reduceToNat, Int.reduceLT, Int.reduceLE, Int.reduceEq, Nat.reduceLeDiff, Nat.reduceLT, Nat.reduceMul, Nat.reduceAdd, String.reduceEq, encE_eq, Expr.k_mk, Expr.n_mk, Expr.s_mk, Expr.a_mk, Expr.p_mk, encEs, slE] <;> rfl
      · simp [IV.np, npL, npE]
      · rw [hgo]
  | false =>
    simp only [go_sem, Nat.reduceEqDiff, Nat.reduceBEq, Int.reduceToNat, Int.reduceLT, Int.reduceLE, Int.reduceEq, Nat.reduceLeDiff, Nat.reduceLT, Nat.reduceMul, Nat.reduceAdd, String.reduceEq, h0, h0', hlt, hat, hl3]
    refine cal_eq (is_sim _ l n qNot h2) ?_
    simp only [go_sem, Nat.reduceEqDiff, Nat.reduceBEq, Int.reduceToNat, Int.reduceLT, Int.reduceLE, Int.reduceEq, Nat.reduceLeDiff, Nat.reduceLT, Nat.reduceMul, Nat.reduceAdd, String.reduceEq, hA]
    refine cal_eq (is_sim _ l n qSub h2) ?_
    cases hB : isP l n qSub with
    | true =>
      have hts := hsign _ hB
      by_cases hd : 12 ≤ depth
      · have hgo : smallF l (f + 1) n depth = (.mk 0 0 ByteArray.empty [] (tk l n).p, bad n) := by rw [smallF, if_neg h0, if_pos (by simp [hB]), if_pos hd]
        simp only [go_sem, Nat.reduceEqDiff, Nat.reduceBEq, Int.reduceToNat, Int.reduceLT, Int.reduceLE, Int.reduceEq, Nat.reduceLeDiff, Nat.reduceLT, Nat.reduceMul, Nat.reduceAdd, String.reduceEq, hd]
        refine drn_of ⟨[], [], []⟩ [0, 0, 2, 7, 15] (by kernel_rfl) ?_
        simp only [go_sem, Nat.reduceEqDiff, Nat.reduceBEq, Int.reduceToNat, Int.reduceLT, Int.reduceLE, Int.reduceEq, Nat.reduceLeDiff, Nat.reduceLT, Nat.reduceMul, Nat.reduceAdd, String.reduceEq]
        refine cald_eq (bad_sim _ n (by omega)) ?_
        simp only [go_sem, Nat.reduceEqDiff, Nat.reduceBEq, Int.reduceToNat, Int.reduceLT, Int.reduceLE, Int.reduceEq, Nat.reduceLeDiff, Nat.reduceLT, Nat.reduceMul, Nat.reduceAdd, String.reduceEq]
        refine hQ .ret _ ?_; clear hQ Q; refine post_ret _ _ (.tup [.agg (encE (.mk 0 0 ByteArray.empty [] (tk l n).p)), ii (bad n)]) ?_ ?_ (DropW.tail0 _ rfl) ⟨?_, rfl⟩
        · simp only [go_sem, Nat.reduceEqDiff, Nat.reduceBEq, Int.reduceToNat, Int.reduceLT, Int.reduceLE, Int.reduceEq, Nat.reduceLeDiff, Nat.reduceLT, Nat.reduceMul, Nat.reduceAdd, String.reduceEq, encE_eq, Expr.k_mk, Expr.n_mk, Expr.s_mk, Expr.a_mk, Expr.p_mk, encEs, slE] <;> rfl
        · simp [IV.np, npL, npE]
        · rw [hgo]
      · have hgo : smallF l (f + 1) n depth = (.mk 5 0 ByteArray.empty [(smallF l f (n + 1) (depth + 1)).1] (tk l n).p, (smallF l f (n + 1) (depth + 1)).2) := by rw [smallF, if_neg h0, if_pos (by simp [hB]), if_neg hd, if_pos hts]
        have hsub := fun m => ihS m (n + 1) (depth + 1) (hneg (by simp [hB])).1 (hneg (by simp [hB])).2 (by omega) (by omega)
        generalize smallF l f (n + 1) (depth + 1) = X at hgo hsub
        simp only [go_sem, Nat.reduceEqDiff, Nat.reduceBEq, Int.reduceToNat, Int.reduceLT, Int.reduceLE, Int.reduceEq, Nat.reduceLeDiff, Nat.reduceLT, Nat.reduceMul, Nat.reduceAdd, String.reduceEq, hd, show (tk l n).s = ⟨#[45]⟩ from hts, hw, hwd]
        refine cal_eq (hsub _) ?_
        simp only [go_sem, Nat.reduceEqDiff, Nat.reduceBEq, Int.reduceToNat, Int.reduceLT, Int.reduceLE, Int.reduceEq, Nat.reduceLeDiff, Nat.reduceLT, Nat.reduceMul, Nat.reduceAdd, String.reduceEq, encE_eq]
        refine hQ .ret _ ?_; clear hQ Q; refine post_ret _ _ (.tup [.agg (encE (.mk 5 0 ByteArray.empty [X.1] (tk l n).p)), ii X.2]) ?_ ?_ (DropW.tail0 _ rfl) ⟨?_, rfl⟩
        · simp only [go_sem, Nat.reduceEqDiff, Nat.reduceBEq, Int.reduceToNat, Int.reduceLT, Int.reduceLE, Int.reduceEq, Nat.reduceLeDiff, Nat.reduceLT, Nat.reduceMul, Nat.reduceAdd, String.reduceEq, encE_eq, Expr.k_mk, Expr.n_mk, Expr.s_mk, Expr.a_mk, Expr.p_mk, encEs, slE] <;> rfl
        · simp [IV.np, npL, npE]
        · rw [hgo]
    | false =>
      simp only [go_sem, Nat.reduceEqDiff, Nat.reduceBEq, Int.reduceToNat, Int.reduceLT, Int.reduceLE, Int.reduceEq, Nat.reduceLeDiff, Nat.reduceLT, Nat.reduceMul, Nat.reduceAdd, String.reduceEq]
      refine cal_eq (is_sim _ l n qLB h2) ?_
      cases hC : isP l n qLB with
      | true =>
        have hgo : smallF l (f + 1) n depth = (.mk 3 0 ByteArray.empty [(aroundF l f n depth qLB qRB).1] (tk l n).p, (aroundF l f n depth qLB qRB).2) := by rw [smallF, if_neg h0, if_neg (by simp [hA, hB]), if_pos hC]
        have hsub := fun m => ihA m n depth qLB qRB hp hA2 (by omega) (by omega)
        generalize aroundF l f n depth qLB qRB = X at hgo hsub
        simp only [go_sem, Nat.reduceEqDiff, Nat.reduceBEq, Int.reduceToNat, Int.reduceLT, Int.reduceLE, Int.reduceEq, Nat.reduceLeDiff, Nat.reduceLT, Nat.reduceMul, Nat.reduceAdd, String.reduceEq]
        refine cal_eq (hsub _) ?_
        simp only [go_sem, Nat.reduceEqDiff, Nat.reduceBEq, Int.reduceToNat, Int.reduceLT, Int.reduceLE, Int.reduceEq, Nat.reduceLeDiff, Nat.reduceLT, Nat.reduceMul, Nat.reduceAdd, String.reduceEq, encE_eq]
        refine hQ .ret _ ?_; clear hQ Q; refine post_ret _ _ (.tup [.agg (encE (.mk 3 0 ByteArray.empty [X.1] (tk l n).p)), ii X.2]) ?_ ?_ (DropW.tail0 _ rfl) ⟨?_, rfl⟩
        · simp only [go_sem, Nat.reduceEqDiff, Nat.reduceBEq, Int.reduceToNat, Int.reduceLT, Int.reduceLE, Int.reduceEq, Nat.reduceLeDiff, Nat.reduceLT, Nat.reduceMul, Nat.reduceAdd, String.reduceEq, encE_eq, Expr.k_mk, Expr.n_mk, Expr.s_mk, Expr.a_mk, Expr.p_mk, encEs, slE] <;> rfl
        · simp [IV.np, npL, npE]
        · rw [hgo]
      | false =>
        simp only [go_sem, Nat.reduceEqDiff, Nat.reduceBEq, Int.reduceToNat, Int.reduceLT, Int.reduceLE, Int.reduceEq, Nat.reduceLeDiff, Nat.reduceLT, Nat.reduceMul, Nat.reduceAdd, String.reduceEq]
        refine cal_eq (is_sim _ l n qLP h2) ?_
        cases hD : isP l n qLP with
        | true =>
          have hgo : smallF l (f + 1) n depth = aroundF l f n depth qLP qRP := by rw [smallF, if_neg h0, if_neg (by simp [hA, hB]), if_neg (by simp [hC]), if_pos hD]
          have hsub := fun m => ihA m n depth qLP qRP hp hA2 (by omega) (by omega)
          generalize aroundF l f n depth qLP qRP = X at hgo hsub
          simp only [go_sem, Nat.reduceEqDiff, Nat.reduceBEq, Int.reduceToNat, Int.reduceLT, Int.reduceLE, Int.reduceEq, Nat.reduceLeDiff, Nat.reduceLT, Nat.reduceMul, Nat.reduceAdd, String.reduceEq]
          refine cal_eq (hsub _) ?_
          simp only [go_sem, Nat.reduceEqDiff, Nat.reduceBEq, Int.reduceToNat, Int.reduceLT, Int.reduceLE, Int.reduceEq, Nat.reduceLeDiff, Nat.reduceLT, Nat.reduceMul, Nat.reduceAdd, String.reduceEq, encE_eq]
          refine hQ .ret _ ?_; clear hQ Q; refine post_ret _ _ (.tup [.agg (encE X.1), ii X.2]) ?_ ?_ (DropW.tail0 _ rfl) ⟨?_, rfl⟩
          · simp only [go_sem, Nat.reduceEqDiff, Nat.reduceBEq, Int.reduceToNat, Int.reduceLT, Int.reduceLE, Int.reduceEq, Nat.reduceLeDiff, Nat.reduceLT, Nat.reduceMul, Nat.reduceAdd, String.reduceEq, encE_eq, Expr.k_mk, Expr.n_mk, Expr.s_mk, Expr.a_mk, Expr.p_mk, encEs, slE] <;> rfl
          · simp [IV.np, npL, npE]
          · rw [hgo]
        | false =>
          by_cases hk : (tk l n).k = 2
          · have hgo : smallF l (f + 1) n depth = (.mk 1 (numP l n).1 ByteArray.empty [] (tk l n).p, (numP l n).2) := by rw [smallF, if_neg h0, if_neg (by simp [hA, hB]), if_neg (by simp [hC]), if_neg (by simp [hD]), if_pos hk]
            simp only [go_sem, Nat.reduceEqDiff, Nat.reduceBEq, Int.reduceToNat, Int.reduceLT, Int.reduceLE, Int.reduceEq, Nat.reduceLeDiff, Nat.reduceLT, Nat.reduceMul, Nat.reduceAdd, String.reduceEq, hk]
            refine cal_eq (numP_sim _ l n hp hl (hsz n)) ?_
            simp only [go_sem, Nat.reduceEqDiff, Nat.reduceBEq, Int.reduceToNat, Int.reduceLT, Int.reduceLE, Int.reduceEq, Nat.reduceLeDiff, Nat.reduceLT, Nat.reduceMul, Nat.reduceAdd, String.reduceEq, encE_eq]
            refine hQ .ret _ ?_; clear hQ Q; refine post_ret _ _ (.tup [.agg (encE (.mk 1 (numP l n).1 ByteArray.empty [] (tk l n).p)), ii (numP l n).2]) ?_ ?_ (DropW.tail0 _ rfl) ⟨?_, rfl⟩
            · simp only [go_sem, Nat.reduceEqDiff, Nat.reduceBEq, Int.reduceToNat, Int.reduceLT, Int.reduceLE, Int.reduceEq, Nat.reduceLeDiff, Nat.reduceLT, Nat.reduceMul, Nat.reduceAdd, String.reduceEq, encE_eq, Expr.k_mk, Expr.n_mk, Expr.s_mk, Expr.a_mk, Expr.p_mk, encEs, slE] <;> rfl
            · simp [IV.np, npL, npE]
            · rw [hgo]
          · simp only [go_sem, Nat.reduceEqDiff, Nat.reduceBEq, Int.reduceToNat, Int.reduceLT, Int.reduceLE, Int.reduceEq, Nat.reduceLeDiff, Nat.reduceLT, Nat.reduceMul, Nat.reduceAdd, String.reduceEq, hk]
            refine cal_eq (is_sim _ l n qTrue h2) ?_
            cases hE : isP l n qTrue with
            | true =>
              have hgo : smallF l (f + 1) n depth = (.mk 2 0 (tk l n).s [] (tk l n).p, (n : Int) + 1) := by rw [smallF, if_neg h0, if_neg (by simp [hA, hB]), if_neg (by simp [hC]), if_neg (by simp [hD]), if_neg hk, if_pos (by simp [hE])]
              simp only [go_sem, Nat.reduceEqDiff, Nat.reduceBEq, Int.reduceToNat, Int.reduceLT, Int.reduceLE, Int.reduceEq, Nat.reduceLeDiff, Nat.reduceLT, Nat.reduceMul, Nat.reduceAdd, String.reduceEq, hw]
              refine hQ .ret _ ?_; clear hQ Q; refine post_ret _ _ (.tup [.agg (encE (.mk 2 0 (tk l n).s [] (tk l n).p)), ii ((n : Int) + 1)]) ?_ ?_ (DropW.tail0 _ rfl) ⟨?_, rfl⟩
              · simp only [go_sem, Nat.reduceEqDiff, Nat.reduceBEq, Int.reduceToNat, Int.reduceLT, Int.reduceLE, Int.reduceEq, Nat.reduceLeDiff, Nat.reduceLT, Nat.reduceMul, Nat.reduceAdd, String.reduceEq, encE_eq, Expr.k_mk, Expr.n_mk, Expr.s_mk, Expr.a_mk, Expr.p_mk, encEs, slE] <;> rfl
              · simp [IV.np, npL, npE]
              · rw [hgo]
            | false =>
              simp only [go_sem, Nat.reduceEqDiff, Nat.reduceBEq, Int.reduceToNat, Int.reduceLT, Int.reduceLE, Int.reduceEq, Nat.reduceLeDiff, Nat.reduceLT, Nat.reduceMul, Nat.reduceAdd, String.reduceEq]
              refine cal_eq (is_sim _ l n qFalse h2) ?_
              cases hF : isP l n qFalse with
              | true =>
                have hgo : smallF l (f + 1) n depth = (.mk 2 0 (tk l n).s [] (tk l n).p, (n : Int) + 1) := by rw [smallF, if_neg h0, if_neg (by simp [hA, hB]), if_neg (by simp [hC]), if_neg (by simp [hD]), if_neg hk, if_pos (by simp [hF])]
                simp only [go_sem, Nat.reduceEqDiff, Nat.reduceBEq, Int.reduceToNat, Int.reduceLT, Int.reduceLE, Int.reduceEq, Nat.reduceLeDiff, Nat.reduceLT, Nat.reduceMul, Nat.reduceAdd, String.reduceEq, hw]
                refine hQ .ret _ ?_; clear hQ Q; refine post_ret _ _ (.tup [.agg (encE (.mk 2 0 (tk l n).s [] (tk l n).p)), ii ((n : Int) + 1)]) ?_ ?_ (DropW.tail0 _ rfl) ⟨?_, rfl⟩
                · simp only [go_sem, Nat.reduceEqDiff, Nat.reduceBEq, Int.reduceToNat, Int.reduceLT, Int.reduceLE, Int.reduceEq, Nat.reduceLeDiff, Nat.reduceLT, Nat.reduceMul, Nat.reduceAdd, String.reduceEq, encE_eq, Expr.k_mk, Expr.n_mk, Expr.s_mk, Expr.a_mk, Expr.p_mk, encEs, slE] <;> rfl
                · simp [IV.np, npL, npE]
                · rw [hgo]
              | false =>
                have hgo : smallF l (f + 1) n depth = (.mk 2 0 (wordP l n).1 [] (tk l n).p, (wordP l n).2) := by rw [smallF, if_neg h0, if_neg (by simp [hA, hB]), if_neg (by simp [hC]), if_neg (by simp [hD]), if_neg hk, if_neg (by simp [hE, hF])]
                simp only [go_sem, Nat.reduceEqDiff, Nat.reduceBEq, Int.reduceToNat, Int.reduceLT, Int.reduceLE, Int.reduceEq, Nat.reduceLeDiff, Nat.reduceLT, Nat.reduceMul, Nat.reduceAdd, String.reduceEq]
                refine cal_eq (wordP_sim _ l n hp hl) ?_
                simp only [go_sem, Nat.reduceEqDiff, Nat.reduceBEq, Int.reduceToNat, Int.reduceLT, Int.reduceLE, Int.reduceEq, Nat.reduceLeDiff, Nat.reduceLT, Nat.reduceMul, Nat.reduceAdd, String.reduceEq]
                refine hQ .ret _ ?_; clear hQ Q; refine post_ret _ _ (.tup [.agg (encE (.mk 2 0 (wordP l n).1 [] (tk l n).p)), ii (wordP l n).2]) ?_ ?_ (DropW.tail0 _ rfl) ⟨?_, rfl⟩
                · simp only [go_sem, Nat.reduceEqDiff, Nat.reduceBEq, Int.reduceToNat, Int.reduceLT, Int.reduceLE, Int.reduceEq, Nat.reduceLeDiff, Nat.reduceLT, Nat.reduceMul, Nat.reduceAdd, String.reduceEq, encE_eq, Expr.k_mk, Expr.n_mk, Expr.s_mk, Expr.a_mk, Expr.p_mk, encEs, slE] <;> rfl
                · simp [IV.np, npL, npE]
                · rw [hgo]
end Go.Proofs.Ytphjldhdnmoolaa.A
/- The walks of some functions over the abstract machine. -/
namespace Go.Proofs.Ytphjldhdnmoolaa.A
open Go
theorem level_le (s : Bytes) : 0 ≤ level s ∧ level s ≤ 5 := by
  unfold level
  split
  · omega
  · split
    · omega
    · split
      · omega
      · split
        · omega
        · split <;> omega
abbrev zE : List IV := [ii 0, ii 0, ss ByteArray.empty, .sl .full 0 [], ii 0]
set_option maxRecDepth 100000 in
set_option maxHeartbeats 4000000 in
theorem expr_step {l : List Tok} (T : Toks l) {f : Nat} (ihS : SS l f) (ihE : ∀ g, g ≤ f → ES l g) : ES l (f + 1) := by
  intro m p least depth ho hen hd0 hd1 hl0 hl1
  have hp := ho
  obtain ⟨h1, h2⟩ := ho
  have hl := T.lt
  refine Sim.ofS 81 [.cell 8 99, .tmp 9] Try.func75 rfl rfl rfl (by simp) fun wr => ?_
  simp only [go_sem, Nat.reduceEqDiff, Nat.reduceBEq, Int.reduceToNat, Int.reduceLT, Int.reduceLE, Int.reduceEq, Nat.reduceLeDiff, Nat.reduceLT, Nat.reduceMul, Nat.reduceAdd, String.reduceEq]
  have hgo : exprF l (f + 1) p least depth = loopF l f (smallF l f p depth).1 (smallF l f p depth).2 5 least depth := by rw [exprF]
  have hs1 := (expr_adv T f).2.2.1 p depth hp
  have hsub := fun m => ihS m p depth hp (by unfold enough okA at *; omega) (by omega) (by omega)
  generalize smallF l f p depth = X at hgo hsub hs1
  rw [hgo]
  generalize htgt : loopF l f X.1 X.2 5 least depth = tgt
  refine TS.seq (TS.of [] fun Q hQ => ?_)
  simp only [go_sem, Nat.reduceEqDiff, Nat.reduceBEq, Int.reduceToNat, Int.reduceLT, Int.reduceLE, Int.reduceEq, Nat.reduceLeDiff, Nat.reduceLT, Nat.reduceMul, Nat.reduceAdd, String.reduceEq]
  refine hQ .normal _ ?_; clear hQ Q
  refine TS.seq (TS.of [] fun Q hQ => ?_)
  simp only [go_sem, Nat.reduceEqDiff, Nat.reduceBEq, Int.reduceToNat, Int.reduceLT, Int.reduceLE, Int.reduceEq, Nat.reduceLeDiff, Nat.reduceLT, Nat.reduceMul, Nat.reduceAdd, String.reduceEq]
  refine cal_eq (hsub _) ?_
  simp only [go_sem, Nat.reduceEqDiff, Nat.reduceBEq, Int.reduceToNat, Int.reduceLT, Int.reduceLE, Int.reduceEq, Nat.reduceLeDiff, Nat.reduceLT, Nat.reduceMul, Nat.reduceAdd, String.reduceEq, encE_eq]
  refine hQ .normal _ ?_; clear hQ Q
  refine TS.seq (TS.of [] fun Q hQ => ?_)
  simp only [go_sem, Nat.reduceEqDiff, Nat.reduceBEq, Int.reduceToNat, Int.reduceLT, Int.reduceLE, Int.reduceEq, Nat.reduceLeDiff, Nat.reduceLT, Nat.reduceMul, Nat.reduceAdd, String.reduceEq]
  refine hQ .normal _ ?_; clear hQ Q
  refine TS.seq (TS.block (TS.loop (α := Nat × Expr × Int × Int) (fun x => [(0, slK l), (1, ii x.2.2.1), (2, ii least), (3, ii depth), (8, .ptr m.objs.length 0), (10, .ptr (m.objs.length + 1) 0), (11, ii x.2.2.2)]) (fun x => ⟨m.objs ++ [.cells zE, .cells (encE x.2.1)], m.rows⟩) (fun x => x.1 ≤ f ∧ okA l x.2.2.1 ∧ ((x.2.2.1 < 0 → 1 ≤ x.1) ∧ (0 ≤ x.2.2.1 → 4 * ((l.length : Int) - x.2.2.1) + 1 ≤ x.1)) ∧ loopF l x.1 x.2.1 x.2.2.1 x.2.2.2 least depth = tgt) (fun x => x.1) (f, X.1, X.2, 5) (by simp) ⟨by simp [Has, upd_apply, argsT], by simp [encE_eq], ⟨Nat.le_refl _, hs1.1, by dsimp only; unfold enough adv okA at *; omega, htgt⟩⟩ ?_))
  clear hsub htgt hs1
  rintro ⟨g, left, q, most⟩ st hH hm ⟨hgf, hq, hge, hc⟩
  dsimp only at hH hm hgf hq hge hc
  rw [encE_eq] at hm
  simp only [Has, List.mem_cons, List.not_mem_nil, or_false, forall_eq_or_imp, forall_eq] at hH; obtain ⟨i0, i1, i2, i3, i8, i10, i11⟩ := hH
  obtain ⟨g, rfl⟩ : ∃ j, g = j + 1 := ⟨g - 1, by unfold okA at hq; omega⟩
  obtain ⟨hq1, hq2⟩ := id hq
  by_cases hq0 : q < 0
  · rw [loopF, if_neg (by omega)] at hc
    have hq0' : ¬ (0 : Int) ≤ q := by omega
    refine TS.of [] fun Q hQ => ?_
    simp only [go_sem, Nat.reduceEqDiff, Nat.reduceBEq, Int.reduceToNat, Int.reduceLT, Int.reduceLE, Int.reduceEq, Nat.reduceLeDiff, Nat.reduceLT, Nat.reduceMul, Nat.reduceAdd, String.reduceEq, i0, i1, i2, i3, i8, i10, i11, hm, hq0']
    refine hQ (.exit 0) _ ?_; clear hQ Q
    refine TS.of [] fun Q hQ => ?_
    simp only [go_sem, Nat.reduceEqDiff, Nat.reduceBEq, Int.reduceToNat, Int.reduceLT, Int.reduceLE, Int.reduceEq, Nat.reduceLeDiff, Nat.reduceLT, Nat.reduceMul, Nat.reduceAdd, String.reduceEq, i0, i1, i2, i3, i8, i10, i11, hm]
    refine hQ .ret _ ?_; clear hQ Q; refine post_ret _ _ (.tup [.agg (encE left), ii q]) ?_ ?_ (DropW.tail0 _ rfl) ⟨?_, rfl⟩
    · simp only [go_sem, Nat.reduceEqDiff, Nat.reduceBEq, Int.reduceToNat, Int.reduceLT, Int.reduceLE, Int.reduceEq, Nat.reduceLeDiff, Nat.reduceLT, Nat.reduceMul, Nat.reduceAdd, String.reduceEq, i8, encE_eq] <;> rfl
    · simp [IV.np, npL, npE]
    · rw [← hc]
  obtain ⟨n, rfl⟩ := nat_of (p := q) (by omega)
  have hlt : n < l.length := by omega
  have hat := encK_at (tk_at hlt)
  have hl3 := encK_lt hlt
  have h0' : (0 : Int) ≤ (n : Int) := by omega
  have hw : IntKind.i64.wrap ((n : Int) + 1) = (n : Int) + 1 := wrap_small (by omega) (by omega)
  by_cases hk : (tk l n).k = 3
  · rw [loopF, if_pos ⟨h0', hk⟩] at hc
    have hlv := level_le (tk l n).s
    by_cases hv : level (tk l n).s < least ∨ most < level (tk l n).s ∨ level (tk l n).s = 0
    · rw [if_pos hv] at hc
      refine TS.of [] fun Q hQ => ?_
      simp only [go_sem, Nat.reduceEqDiff, Nat.reduceBEq, Int.reduceToNat, Int.reduceLT, Int.reduceLE, Int.reduceEq, Nat.reduceLeDiff, Nat.reduceLT, Nat.reduceMul, Nat.reduceAdd, String.reduceEq, i0, i1, i2, i3, i8, i10, i11, hm, h0', hlt, hat, hl3, hk]
      refine cal_eq (level_sim _ _) ?_
      generalize level (tk l n).s = v at hv hlv ⊢
      have hv' : (decide (v < least) || (decide (most < v) || decide (v = 0))) = true := by simpa using hv
      rcases e1 : decide (v < least) with _ | _ <;> rcases e2 : decide (most < v) with _ | _ <;> rcases e3 : decide (v = 0) with _ | _ <;> first | (exfalso; rw [e1, e2, e3] at hv'; cases hv'; done) | skip
      all_goals (simp only [go_sem, Nat.reduceEqDiff, Nat.reduceBEq, Int.reduceToNat, Int.reduceLT, Int.reduceLE, Int.reduceEq, Nat.reduceLeDiff, Nat.reduceLT, Nat.reduceMul, Nat.reduceAdd, String.reduceEq, i0, i1, i2, i3, i8, i10, i11, hm, e1, e2, e3])
      all_goals (refine hQ .ret _ ?_; clear hQ Q; refine post_ret _ _ (.tup [.agg (encE left), ii n]) ?_ ?_ (DropW.tail0 _ rfl) ⟨?_, rfl⟩)
      all_goals first | (rw [← hc]; done) | (simp [IV.np, npL, npE]; done) | (simp only [go_sem, Nat.reduceEqDiff, Nat.reduceBEq, Int.reduceToNat, Int.reduceLT, Int.reduceLE, Int.reduceEq, Nat.reduceLeDiff, Nat.reduceLT, Nat.reduceMul, Nat.reduceAdd, String.reduceEq, i8, encE_eq])
    · rw [if_neg hv] at hc
      have hadv : okA l ((n : Int) + 1) := ⟨by omega, T.last n h0' hq2 (by rw [hk]; decide)⟩
      have hs2 := (expr_adv T g).1 (n + 1) (level (tk l n).s + 1) depth hadv
      have hsub := fun m => ihE g (by omega) m (n + 1) (level (tk l n).s + 1) depth hadv (by unfold enough okA at *; omega) (by omega) (by omega) (by omega) (by omega)
      have hwl : IntKind.i64.wrap (level (tk l n).s + 1) = level (tk l n).s + 1 := wrap_small (by omega) (by omega)
      generalize exprF l g (n + 1) (level (tk l n).s + 1) depth = Y at hc hsub hs2
      refine TS.of [] fun Q hQ => ?_
      simp only [go_sem, Nat.reduceEqDiff, Nat.reduceBEq, Int.reduceToNat, Int.reduceLT, Int.reduceLE, Int.reduceEq, Nat.reduceLeDiff, Nat.reduceLT, Nat.reduceMul, Nat.reduceAdd, String.reduceEq, i0, i1, i2, i3, i8, i10, i11, hm, h0', hlt, hat, hl3, hk]
      refine cal_eq (level_sim _ _) ?_
      generalize level (tk l n).s = v at hv hlv hc hsub hwl ⊢
      have e1 : ¬ v < least := by omega
      have e2 : ¬ most < v := by omega
      have e3 : ¬ v = 0 := by omega
      simp only [go_sem, Nat.reduceEqDiff, Nat.reduceBEq, Int.reduceToNat, Int.reduceLT, Int.reduceLE, Int.reduceEq, Nat.reduceLeDiff, Nat.reduceLT, Nat.reduceMul, Nat.reduceAdd, String.reduceEq, i0, i1, i2, i3, i8, i10, i11, hm, h0', hlt, hat, hl3, hw, hwl, e1, e2, e3]
      refine cal_eq (hsub _) ?_
      have hnew : encE (.mk 6 0 (tk l n).s [left, Y.1] (tk l n).p) = [ii 6, ii 0, ss (tk l n).s, .sl .sh 2 [ii left.k, ii left.n, ss left.s, slE left.a, ii left.p, ii Y.1.k, ii Y.1.n, ss Y.1.s, slE Y.1.a, ii Y.1.p], ii (tk l n).p] := by
        simp only [encE_eq, Expr.k_mk, Expr.n_mk, Expr.s_mk, Expr.a_mk, Expr.p_mk, slE, encEs, List.append_nil, List.cons_append, List.nil_append, List.length_cons, List.length_nil]
      by_cases e4 : v = 3
      · rw [if_pos e4] at hc
        simp only [go_sem, Nat.reduceEqDiff, Nat.reduceBEq, Int.reduceToNat, Int.reduceLT, Int.reduceLE, Int.reduceEq, Nat.reduceLeDiff, Nat.reduceLT, Nat.reduceMul, Nat.reduceAdd, String.reduceEq, encE_eq, e4, i0, i1, i2, i3, i8, i10, i11]
        refine hQ .normal _ ?_; clear hQ Q
        refine ⟨m.objs.length + 2, m.rows.length, (g, .mk 6 0 (tk l n).s [left, Y.1] (tk l n).p, Y.2, 2), ?_, ?_, ⟨?_, ?_, ?_, hc⟩, ?_⟩
        · dsimp only; rw [hnew, encE_eq left]; exact DropW.loc m.objs [.cells zE, .cells [_, _, _, _, _]] [.cells zE, .cells [_, _, _, _, _]] [_, _] m.rows m.rows m.rows (Nat.le_refl _) (by simp [IObj.np, npL, IV.np, SK.np, npEs]) (Nat.le_refl _) (by simp)
        · simp [upd_apply, i0, i2, i3, i8, i10, IV.np, SK.np, npK, npL]
        · dsimp only; omega
        · dsimp only; exact hs2.1
        · dsimp only; unfold adv okA at *; omega
        · dsimp only; omega
      · rw [if_neg e4] at hc
        simp only [go_sem, Nat.reduceEqDiff, Nat.reduceBEq, Int.reduceToNat, Int.reduceLT, Int.reduceLE, Int.reduceEq, Nat.reduceLeDiff, Nat.reduceLT, Nat.reduceMul, Nat.reduceAdd, String.reduceEq, encE_eq, e4, i0, i1, i2, i3, i8, i10, i11]
        refine hQ .normal _ ?_; clear hQ Q
        refine ⟨m.objs.length + 2, m.rows.length, (g, .mk 6 0 (tk l n).s [left, Y.1] (tk l n).p, Y.2, v), ?_, ?_, ⟨?_, ?_, ?_, hc⟩, ?_⟩
        · dsimp only; rw [hnew, encE_eq left]; exact DropW.loc m.objs [.cells zE, .cells [_, _, _, _, _]] [.cells zE, .cells [_, _, _, _, _]] [_, _] m.rows m.rows m.rows (Nat.le_refl _) (by simp [IObj.np, npL, IV.np, SK.np, npEs]) (Nat.le_refl _) (by simp)
        · simp [upd_apply, i0, i2, i3, i8, i10, IV.np, SK.np, npK, npL]
        · dsimp only; omega
        · dsimp only; exact hs2.1
        · dsimp only; unfold adv okA at *; omega
        · dsimp only; omega
  · rw [loopF, if_neg (by rintro ⟨_, h⟩; exact hk h)] at hc
    refine TS.of [] fun Q hQ => ?_
    simp only [go_sem, Nat.reduceEqDiff, Nat.reduceBEq, Int.reduceToNat, Int.reduceLT, Int.reduceLE, Int.reduceEq, Nat.reduceLeDiff, Nat.reduceLT, Nat.reduceMul, Nat.reduceAdd, String.reduceEq, i0, i1, i2, i3, i8, i10, i11, hm, h0', hlt, hat, hl3, hk]
    refine hQ (.exit 0) _ ?_; clear hQ Q
    refine TS.of [] fun Q hQ => ?_
    simp only [go_sem, Nat.reduceEqDiff, Nat.reduceBEq, Int.reduceToNat, Int.reduceLT, Int.reduceLE, Int.reduceEq, Nat.reduceLeDiff, Nat.reduceLT, Nat.reduceMul, Nat.reduceAdd, String.reduceEq, i0, i1, i2, i3, i8, i10, i11, hm]
    refine hQ .ret _ ?_; clear hQ Q; refine post_ret _ _ (.tup [.agg (encE left), ii n]) ?_ ?_ (DropW.tail0 _ rfl) ⟨?_, rfl⟩
    · simp only [go_sem, Nat.reduceEqDiff, Nat.reduceBEq, Int.reduceToNat, Int.reduceLT, Int.reduceLE, Int.reduceEq, Nat.reduceLeDiff, Nat.reduceLT, Nat.reduceMul, Nat.reduceAdd, String.reduceEq, i8, encE_eq] <;> rfl
    · simp [IV.np, npL, npE]
    · rw [← hc]
theorem expr_all {l : List Tok} (T : Toks l) (hsz : ∀ p, (tk l p).s.size < 900000) : ∀ f, (∀ g, g ≤ f → ES l g) ∧ SS l f ∧ AS l f := by
  have z : ES l 0 ∧ SS l 0 ∧ AS l 0 := by
    refine ⟨fun m p least depth ho hen => ?_, fun m p depth ho hen => ?_, fun m p depth a b ho hen => ?_⟩ <;> (exfalso; unfold enough okA at *; omega)
  intro f
  induction f with
  | zero => exact ⟨fun g hg => by obtain rfl : g = 0 := by omega
                                  exact z.1, z.2⟩
  | succ f ih =>
    obtain ⟨h1, h2, h3⟩ := ih
    refine ⟨fun g hg => ?_, small_step T hsz h2 h3, around_step T (h1 f (Nat.le_refl f))⟩
    by_cases e : g = f + 1
    · subst e; exact expr_step T h2 h1
    · exact h1 g (by omega)
theorem expr_sim {l : List Tok} (T : Toks l) (hsz : ∀ p, (tk l p).s.size < 900000) (m : Mem) (p least depth : Int) (ho : okA l p) (hd : 0 ≤ depth) (hd' : depth ≤ 1000) (h0 : 0 ≤ least) (h1 : least ≤ 100) : Sim 75 [slK l, ii p, ii least, ii depth] m (fun r m' => r = .tup [.agg (encE (expr l p least depth).1), ii (expr l p least depth).2] ∧ m' = m) :=
  (expr_all T hsz (fuelE l)).1 _ (Nat.le_refl _) m p least depth ho (by unfold enough fuelE okA at *; omega) hd (by have := T.lt; unfold fuelE; omega) h0 h1
theorem around_sim {l : List Tok} (T : Toks l) (hsz : ∀ p, (tk l p).s.size < 900000) (m : Mem) (p depth : Int) (a b : Bytes) (ho : okA l p) (hd : 0 ≤ depth) (hd' : depth ≤ 1000) : Sim 101 [slK l, ii p, ii depth, ss a, ss b] m (fun r m' => r = .tup [.agg (encE (around l p depth a b).1), ii (around l p depth a b).2] ∧ m' = m) :=
  (expr_all T hsz (fuelE l)).2.2 m p depth a b ho (by unfold enough fuelE okA at *; omega) hd (by have := T.lt; unfold fuelE; omega)
end Go.Proofs.Ytphjldhdnmoolaa.A
/- The walks of some functions over the abstract machine. -/
namespace Go.Proofs.Ytphjldhdnmoolaa.A
open Go
theorem Stmt.k_mk {k s x n b e p} : (Stmt.mk k s x n b e p).k = k := rfl
theorem Stmt.s_mk {k s x n b e p} : (Stmt.mk k s x n b e p).s = s := rfl
theorem Stmt.x_mk {k s x n b e p} : (Stmt.mk k s x n b e p).x = x := rfl
theorem Stmt.n_mk {k s x n b e p} : (Stmt.mk k s x n b e p).n = n := rfl
theorem Stmt.b_mk {k s x n b e p} : (Stmt.mk k s x n b e p).b = b := rfl
theorem Stmt.e_mk {k s x n b e p} : (Stmt.mk k s x n b e p).e = e := rfl
theorem Stmt.p_mk {k s x n b e p} : (Stmt.mk k s x n b e p).p = p := rfl
set_option maxRecDepth 100000 in
set_option maxHeartbeats 4000000 in
theorem cell_sim {l : List Tok} (T : Toks l) (hsz : ∀ p, (tk l p).s.size < 900000) (m : Mem) (p depth : Int) (ho : okA l p) (h0 : 0 ≤ p) (hd : 0 ≤ depth) (hd' : depth ≤ 1000) : Sim 92 [slK l, ii p, ii depth] m (fun r m' => r = .tup [.agg (encT (cellS l p depth).1), ii (cellS l p depth).2] ∧ m' = m) := by
  have hp := ho
  obtain ⟨h1, h2⟩ := ho
  have hl := T.lt
  refine Sim.ofS 99 [.cell 6 104, .tmp 7] Try.func92 rfl rfl rfl (by simp) fun wr => ?_
  simp only [go_sem, Nat.reduceEqDiff, Nat.reduceBEq, Int.reduceToNat, Int.reduceLT, Int.reduceLE, Int.reduceEq, Nat.reduceLeDiff, Nat.reduceLT, Nat.reduceMul, Nat.reduceAdd, String.reduceEq]
  obtain ⟨n, rfl⟩ := nat_of (p := p) (by omega)
  have hlt : n < l.length := by omega
  have hat := encK_at (tk_at hlt)
  have hl3 := encK_lt hlt
  have hgo : cellS l n depth = cellS l n depth := rfl
  conv at hgo => rhs; unfold cellS
  have hsub := fun m => around_sim T hsz m n depth qLB qRB hp hd hd'
  have ha := around_adv1 T (depth := depth) (a := qLB) (b := qRB) hp
  generalize around l n depth qLB qRB = X at hgo hsub ha
  have hX := ha.1
  obtain ⟨hX1, hX2⟩ := ha.1
  refine TS.of [] fun Q hQ => ?_
  simp only [go_sem, Nat.reduceEqDiff, Nat.reduceBEq, Int.reduceToNat, Int.reduceLT, Int.reduceLE, Int.reduceEq, Nat.reduceLeDiff, Nat.reduceLT, Nat.reduceMul, Nat.reduceAdd, String.reduceEq, h0, hlt, hat, hl3]
  refine cal_eq (hsub _) ?_
  simp only [go_sem, Nat.reduceEqDiff, Nat.reduceBEq, Int.reduceToNat, Int.reduceLT, Int.reduceLE, Int.reduceEq, Nat.reduceLeDiff, Nat.reduceLT, Nat.reduceMul, Nat.reduceAdd, String.reduceEq, encE_eq]
  refine cal_eq (is_sim _ l X.2 qSet hX2) ?_
  have hwx : 0 ≤ X.2 → IntKind.i64.wrap (X.2 + 1) = X.2 + 1 := fun _ => wrap_small (by omega) (by omega)
  cases hA : isP l X.2 qSet with
  | true =>
    have hnx := isP_lt T hX hA
    have hns : isP l X.2 qSwap = false := by
      cases h : isP l X.2 qSwap with
      | false => rfl
      | true => have e1 := (isP_k T hA).2.2; have e2 := (isP_k T h).2.2; rw [e1] at e2; exact absurd e2 (by decide)
    rw [if_neg (by simp [hns]), if_pos (by simp [hA]), if_pos hA] at hgo
    have hsub2 := fun m => expr_sim T hsz m (X.2 + 1) 1 depth hnx.2 hd hd' (by omega) (by omega)
    have hy := expr_adv1 T (least := 1) (depth := depth) hnx.2
    generalize expr l (X.2 + 1) 1 depth = Y at hgo hsub2 hy
    simp only [go_sem, Nat.reduceEqDiff, Nat.reduceBEq, Int.reduceToNat, Int.reduceLT, Int.reduceLE, Int.reduceEq, Nat.reduceLeDiff, Nat.reduceLT, Nat.reduceMul, Nat.reduceAdd, String.reduceEq, hwx hnx.1]
    refine cal_eq (hsub2 _) ?_
    simp only [go_sem, Nat.reduceEqDiff, Nat.reduceBEq, Int.reduceToNat, Int.reduceLT, Int.reduceLE, Int.reduceEq, Nat.reduceLeDiff, Nat.reduceLT, Nat.reduceMul, Nat.reduceAdd, String.reduceEq, encE_eq]
    refine drn_of ⟨[], [], []⟩ [0, 0, 0, 6, 15, 31] (by kernel_rfl) ?_
    simp only [go_sem, Nat.reduceEqDiff, Nat.reduceBEq, Int.reduceToNat, Int.reduceLT, Int.reduceLE, Int.reduceEq, Nat.reduceLeDiff, Nat.reduceLT, Nat.reduceMul, Nat.reduceAdd, String.reduceEq, encE_eq]
    refine cald_eq (eat_sim _ l Y.2 qSemi hy.1 hl) ?_
    simp only [go_sem, Nat.reduceEqDiff, Nat.reduceBEq, Int.reduceToNat, Int.reduceLT, Int.reduceLE, Int.reduceEq, Nat.reduceLeDiff, Nat.reduceLT, Nat.reduceMul, Nat.reduceAdd, String.reduceEq]
    refine hQ .ret _ ?_; clear hQ Q; refine post_ret _ _ (.tup [.agg (encT (.mk 2 ByteArray.empty [X.1, Y.1] 0 [] [] (tk l n).p)), ii (eatP l Y.2 qSemi)]) ?_ ?_ (DropW.tail0 _ rfl) ⟨?_, rfl⟩
    · simp only [go_sem, Nat.reduceEqDiff, Nat.reduceBEq, Int.reduceToNat, Int.reduceLT, Int.reduceLE, Int.reduceEq, Nat.reduceLeDiff, Nat.reduceLT, Nat.reduceMul, Nat.reduceAdd, String.reduceEq, encT_eq, encE_eq, Stmt.k_mk, Stmt.s_mk, Stmt.x_mk, Stmt.n_mk, Stmt.b_mk, Stmt.e_mk, Stmt.p_mk, encEs, encTs, slE, slT, List.append_nil] <;> rfl
    · simp [IV.np, npL, npT]
    · rw [hgo]
  | false =>
    simp only [go_sem, Nat.reduceEqDiff, Nat.reduceBEq, Int.reduceToNat, Int.reduceLT, Int.reduceLE, Int.reduceEq, Nat.reduceLeDiff, Nat.reduceLT, Nat.reduceMul, Nat.reduceAdd, String.reduceEq]
    refine cal_eq (is_sim _ l X.2 qAddS hX2) ?_
    cases hB : isP l X.2 qAddS with
    | true =>
      have hnx := isP_lt T hX hB
      have hns : isP l X.2 qSwap = false := by
        cases h : isP l X.2 qSwap with
        | false => rfl
        | true => have e1 := (isP_k T hB).2.2; have e2 := (isP_k T h).2.2; rw [e1] at e2; exact absurd e2 (by decide)
      rw [if_neg (by simp [hns]), if_pos (by simp [hB]), if_neg (by simp [hA]), if_pos hB] at hgo
      have hsub2 := fun m => expr_sim T hsz m (X.2 + 1) 1 depth hnx.2 hd hd' (by omega) (by omega)
      have hy := expr_adv1 T (least := 1) (depth := depth) hnx.2
      generalize expr l (X.2 + 1) 1 depth = Y at hgo hsub2 hy
      simp only [go_sem, Nat.reduceEqDiff, Nat.reduceBEq, Int.reduceToNat, Int.reduceLT, Int.reduceLE, Int.reduceEq, Nat.reduceLeDiff, Nat.reduceLT, Nat.reduceMul, Nat.reduceAdd, String.reduceEq, hwx hnx.1]
      refine cal_eq (hsub2 _) ?_
      simp only [go_sem, Nat.reduceEqDiff, Nat.reduceBEq, Int.reduceToNat, Int.reduceLT, Int.reduceLE, Int.reduceEq, Nat.reduceLeDiff, Nat.reduceLT, Nat.reduceMul, Nat.reduceAdd, String.reduceEq, encE_eq]
      refine drn_of ⟨[], [], []⟩ [0, 0, 0, 6, 15, 31] (by kernel_rfl) ?_
      simp only [go_sem, Nat.reduceEqDiff, Nat.reduceBEq, Int.reduceToNat, Int.reduceLT, Int.reduceLE, Int.reduceEq, Nat.reduceLeDiff, Nat.reduceLT, Nat.reduceMul, Nat.reduceAdd, String.reduceEq, encE_eq]
      refine cald_eq (eat_sim _ l Y.2 qSemi hy.1 hl) ?_
      simp only [go_sem, Nat.reduceEqDiff, Nat.reduceBEq, Int.reduceToNat, Int.reduceLT, Int.reduceLE, Int.reduceEq, Nat.reduceLeDiff, Nat.reduceLT, Nat.reduceMul, Nat.reduceAdd, String.reduceEq]
      refine hQ .ret _ ?_; clear hQ Q; refine post_ret _ _ (.tup [.agg (encT (.mk 3 ByteArray.empty [X.1, Y.1] 0 [] [] (tk l n).p)), ii (eatP l Y.2 qSemi)]) ?_ ?_ (DropW.tail0 _ rfl) ⟨?_, rfl⟩
      · simp only [go_sem, Nat.reduceEqDiff, Nat.reduceBEq, Int.reduceToNat, Int.reduceLT, Int.reduceLE, Int.reduceEq, Nat.reduceLeDiff, Nat.reduceLT, Nat.reduceMul, Nat.reduceAdd, String.reduceEq, encT_eq, encE_eq, Stmt.k_mk, Stmt.s_mk, Stmt.x_mk, Stmt.n_mk, Stmt.b_mk, Stmt.e_mk, Stmt.p_mk, encEs, encTs, slE, slT, List.append_nil] <;> rfl
      · simp [IV.np, npL, npT]
      · rw [hgo]
    | false =>
      simp only [go_sem, Nat.reduceEqDiff, Nat.reduceBEq, Int.reduceToNat, Int.reduceLT, Int.reduceLE, Int.reduceEq, Nat.reduceLeDiff, Nat.reduceLT, Nat.reduceMul, Nat.reduceAdd, String.reduceEq]
      refine cal_eq (is_sim _ l X.2 qSubS hX2) ?_
      cases hC : isP l X.2 qSubS with
      | true =>
        have hnx := isP_lt T hX hC
        have hns : isP l X.2 qSwap = false := by
          cases h : isP l X.2 qSwap with
          | false => rfl
          | true => have e1 := (isP_k T hC).2.2; have e2 := (isP_k T h).2.2; rw [e1] at e2; exact absurd e2 (by decide)
        rw [if_neg (by simp [hns]), if_pos (by simp [hC]), if_neg (by simp [hA]), if_neg (by simp [hB])] at hgo
        have hsub2 := fun m => expr_sim T hsz m (X.2 + 1) 1 depth hnx.2 hd hd' (by omega) (by omega)
        have hy := expr_adv1 T (least := 1) (depth := depth) hnx.2
        generalize expr l (X.2 + 1) 1 depth = Y at hgo hsub2 hy
        simp only [go_sem, Nat.reduceEqDiff, Nat.reduceBEq, Int.reduceToNat, Int.reduceLT, Int.reduceLE, Int.reduceEq, Nat.reduceLeDiff, Nat.reduceLT, Nat.reduceMul, Nat.reduceAdd, String.reduceEq, hwx hnx.1]
        refine cal_eq (hsub2 _) ?_
        simp only [go_sem, Nat.reduceEqDiff, Nat.reduceBEq, Int.reduceToNat, Int.reduceLT, Int.reduceLE, Int.reduceEq, Nat.reduceLeDiff, Nat.reduceLT, Nat.reduceMul, Nat.reduceAdd, String.reduceEq, encE_eq]
        refine drn_of ⟨[], [], []⟩ [0, 0, 0, 6, 15, 31] (by kernel_rfl) ?_
        simp only [go_sem, Nat.reduceEqDiff, Nat.reduceBEq, Int.reduceToNat, Int.reduceLT, Int.reduceLE, Int.reduceEq, Nat.reduceLeDiff, Nat.reduceLT, Nat.reduceMul, Nat.reduceAdd, String.reduceEq, encE_eq]
        refine cald_eq (eat_sim _ l Y.2 qSemi hy.1 hl) ?_
        simp only [go_sem, Nat.reduceEqDiff, Nat.reduceBEq, Int.reduceToNat, Int.reduceLT, Int.reduceLE, Int.reduceEq, Nat.reduceLeDiff, Nat.reduceLT, Nat.reduceMul, Nat.reduceAdd, String.reduceEq]
        refine hQ .ret _ ?_; clear hQ Q; refine post_ret _ _ (.tup [.agg (encT (.mk 4 ByteArray.empty [X.1, Y.1] 0 [] [] (tk l n).p)), ii (eatP l Y.2 qSemi)]) ?_ ?_ (DropW.tail0 _ rfl) ⟨?_, rfl⟩
        · simp only [go_sem, Nat.reduceEqDiff, Nat.reduceBEq, Int.reduceToNat, Int.reduceLT, Int.reduceLE, Int.reduceEq, Nat.reduceLeDiff, Nat.reduceLT, Nat.reduceMul, Nat.reduceAdd, String.reduceEq, encT_eq, encE_eq, Stmt.k_mk, Stmt.s_mk, Stmt.x_mk, Stmt.n_mk, Stmt.b_mk, Stmt.e_mk, Stmt.p_mk, encEs, encTs, slE, slT, List.append_nil] <;> rfl
        · simp [IV.np, npL, npT]
        · rw [hgo]
      | false =>
        simp only [go_sem, Nat.reduceEqDiff, Nat.reduceBEq, Int.reduceToNat, Int.reduceLT, Int.reduceLE, Int.reduceEq, Nat.reduceLeDiff, Nat.reduceLT, Nat.reduceMul, Nat.reduceAdd, String.reduceEq]
        refine cal_eq (is_sim _ l X.2 qSwap hX2) ?_
        cases hD : isP l X.2 qSwap with
        | true =>
          have hnx := isP_lt T hX hD
          obtain ⟨hn1, hn2⟩ := hnx.2
          rw [if_pos hD] at hgo
          have hsub2 := fun m => around_sim T hsz m (X.2 + 1) depth qLB qRB hnx.2 hd hd'
          have hy := around_adv1 T (depth := depth) (a := qLB) (b := qRB) hnx.2
          generalize around l (X.2 + 1) depth qLB qRB = Y at hgo hsub2 hy
          have hso : okA l (swapEnd l X.2 Y.2) := by
            unfold swapEnd; split
            · exact (bad_adv T (p := 0) hnx.2 (by omega)).1
            · exact hy.1
          have hso1 := hso.1
          have hso2 := hso.2
          simp only [go_sem, Nat.reduceEqDiff, Nat.reduceBEq, Int.reduceToNat, Int.reduceLT, Int.reduceLE, Int.reduceEq, Nat.reduceLeDiff, Nat.reduceLT, Nat.reduceMul, Nat.reduceAdd, String.reduceEq, hwx hnx.1]
          refine cal_eq (hsub2 _) ?_
          simp only [go_sem, Nat.reduceEqDiff, Nat.reduceBEq, Int.reduceToNat, Int.reduceLT, Int.reduceLE, Int.reduceEq, Nat.reduceLeDiff, Nat.reduceLT, Nat.reduceMul, Nat.reduceAdd, String.reduceEq, encE_eq, hwx hnx.1]
          by_cases hneg : Y.2 < 0
          · simp only [go_sem, Nat.reduceEqDiff, Nat.reduceBEq, Int.reduceToNat, Int.reduceLT, Int.reduceLE, Int.reduceEq, Nat.reduceLeDiff, Nat.reduceLT, Nat.reduceMul, Nat.reduceAdd, String.reduceEq, hneg, hwx hnx.1]
            refine cal_eq (is_sim _ l (X.2 + 1) qLB hn2) ?_
            cases hE : isP l (X.2 + 1) qLB with
            | true =>
              have hsw : swapEnd l X.2 Y.2 = Y.2 := by simp [swapEnd, hE]
              dsimp only at hgo; rw [hsw] at hgo
              simp only [go_sem, Nat.reduceEqDiff, Nat.reduceBEq, Int.reduceToNat, Int.reduceLT, Int.reduceLE, Int.reduceEq, Nat.reduceLeDiff, Nat.reduceLT, Nat.reduceMul, Nat.reduceAdd, String.reduceEq]
              refine drn_of ⟨[], [], []⟩ [0, 0, 0, 6, 15, 31] (by kernel_rfl) ?_
              simp only [go_sem, Nat.reduceEqDiff, Nat.reduceBEq, Int.reduceToNat, Int.reduceLT, Int.reduceLE, Int.reduceEq, Nat.reduceLeDiff, Nat.reduceLT, Nat.reduceMul, Nat.reduceAdd, String.reduceEq]
              refine cald_eq (eat_sim _ l Y.2 qSemi hy.1 hl) ?_
              simp only [go_sem, Nat.reduceEqDiff, Nat.reduceBEq, Int.reduceToNat, Int.reduceLT, Int.reduceLE, Int.reduceEq, Nat.reduceLeDiff, Nat.reduceLT, Nat.reduceMul, Nat.reduceAdd, String.reduceEq]
              refine hQ .ret _ ?_; clear hQ Q; refine post_ret _ _ (.tup [.agg (encT (.mk 5 ByteArray.empty [X.1, Y.1] 0 [] [] (tk l n).p)), ii (eatP l Y.2 qSemi)]) ?_ ?_ (DropW.tail0 _ rfl) ⟨?_, rfl⟩
              · simp only [go_sem, Nat.reduceEqDiff, Nat.reduceBEq, Int.reduceToNat, Int.reduceLT, Int.reduceLE, Int.reduceEq, Nat.reduceLeDiff, Nat.reduceLT, Nat.reduceMul, Nat.reduceAdd, String.reduceEq, encT_eq, encE_eq, Stmt.k_mk, Stmt.s_mk, Stmt.x_mk, Stmt.n_mk, Stmt.b_mk, Stmt.e_mk, Stmt.p_mk, encEs, encTs, slE, slT, List.append_nil] <;> rfl
              · simp [IV.np, npL, npT]
              · rw [hgo]
            | false =>
              have hsw : swapEnd l X.2 Y.2 = bad (X.2 + 1) := by simp [swapEnd, hE, hneg]
              dsimp only at hgo; rw [hsw] at hgo hso
              simp only [go_sem, Nat.reduceEqDiff, Nat.reduceBEq, Int.reduceToNat, Int.reduceLT, Int.reduceLE, Int.reduceEq, Nat.reduceLeDiff, Nat.reduceLT, Nat.reduceMul, Nat.reduceAdd, String.reduceEq, hwx hnx.1]
              refine cal_eq (bad_sim _ (X.2 + 1) (by omega)) ?_
              simp only [go_sem, Nat.reduceEqDiff, Nat.reduceBEq, Int.reduceToNat, Int.reduceLT, Int.reduceLE, Int.reduceEq, Nat.reduceLeDiff, Nat.reduceLT, Nat.reduceMul, Nat.reduceAdd, String.reduceEq]
              refine drn_of ⟨[], [], []⟩ [0, 0, 0, 6, 15, 31] (by kernel_rfl) ?_
              simp only [go_sem, Nat.reduceEqDiff, Nat.reduceBEq, Int.reduceToNat, Int.reduceLT, Int.reduceLE, Int.reduceEq, Nat.reduceLeDiff, Nat.reduceLT, Nat.reduceMul, Nat.reduceAdd, String.reduceEq]
              refine cald_eq (eat_sim _ l (bad (X.2 + 1)) qSemi hso hl) ?_
              simp only [go_sem, Nat.reduceEqDiff, Nat.reduceBEq, Int.reduceToNat, Int.reduceLT, Int.reduceLE, Int.reduceEq, Nat.reduceLeDiff, Nat.reduceLT, Nat.reduceMul, Nat.reduceAdd, String.reduceEq]
              refine hQ .ret _ ?_; clear hQ Q; refine post_ret _ _ (.tup [.agg (encT (.mk 5 ByteArray.empty [X.1, Y.1] 0 [] [] (tk l n).p)), ii (eatP l (bad (X.2 + 1)) qSemi)]) ?_ ?_ (DropW.tail0 _ rfl) ⟨?_, rfl⟩
              · simp only [go_sem, Nat.reduceEqDiff, Nat.reduceBEq, Int.reduceToNat, Int.reduceLT, Int.reduceLE, Int.reduceEq, Nat.reduceLeDiff, Nat.reduceLT, Nat.reduceMul, Nat.reduceAdd, String.reduceEq, encT_eq, encE_eq, Stmt.k_mk, Stmt.s_mk, Stmt.x_mk, Stmt.n_mk, Stmt.b_mk, Stmt.e_mk, Stmt.p_mk, encEs, encTs, slE, slT, List.append_nil] <;> rfl
              · simp [IV.np, npL, npT]
              · rw [hgo]
          · have hsw : swapEnd l X.2 Y.2 = Y.2 := by simp [swapEnd, hneg]
            dsimp only at hgo; rw [hsw] at hgo
            simp only [go_sem, Nat.reduceEqDiff, Nat.reduceBEq, Int.reduceToNat, Int.reduceLT, Int.reduceLE, Int.reduceEq, Nat.reduceLeDiff, Nat.reduceLT, Nat.reduceMul, Nat.reduceAdd, String.reduceEq, hneg]
            refine drn_of ⟨[], [], []⟩ [0, 0, 0, 6, 15, 31] (by kernel_rfl) ?_
            simp only [go_sem, Nat.reduceEqDiff, Nat.reduceBEq, Int.reduceToNat, Int.reduceLT, Int.reduceLE, Int.reduceEq, Nat.reduceLeDiff, Nat.reduceLT, Nat.reduceMul, Nat.reduceAdd, String.reduceEq]
            refine cald_eq (eat_sim _ l Y.2 qSemi hy.1 hl) ?_
            simp only [go_sem, Nat.reduceEqDiff, Nat.reduceBEq, Int.reduceToNat, Int.reduceLT, Int.reduceLE, Int.reduceEq, Nat.reduceLeDiff, Nat.reduceLT, Nat.reduceMul, Nat.reduceAdd, String.reduceEq]
            refine hQ .ret _ ?_; clear hQ Q; refine post_ret _ _ (.tup [.agg (encT (.mk 5 ByteArray.empty [X.1, Y.1] 0 [] [] (tk l n).p)), ii (eatP l Y.2 qSemi)]) ?_ ?_ (DropW.tail0 _ rfl) ⟨?_, rfl⟩
            · simp only [go_sem, Nat.reduceEqDiff, Nat.reduceBEq, Int.reduceToNat, Int.reduceLT, Int.reduceLE, Int.reduceEq, Nat.reduceLeDiff, Nat.reduceLT, Nat.reduceMul, Nat.reduceAdd, String.reduceEq, encT_eq, encE_eq, Stmt.k_mk, Stmt.s_mk, Stmt.x_mk, Stmt.n_mk, Stmt.b_mk, Stmt.e_mk, Stmt.p_mk, encEs, encTs, slE, slT, List.append_nil] <;> rfl
            · simp [IV.np, npL, npT]
            · rw [hgo]
        | false =>
          rw [if_neg (by simp [hD]), if_neg (by simp [hA, hB, hC])] at hgo
          by_cases hneg : X.2 < 0
          · rw [if_pos hneg] at hgo
            simp only [go_sem, Nat.reduceEqDiff, Nat.reduceBEq, Int.reduceToNat, Int.reduceLT, Int.reduceLE, Int.reduceEq, Nat.reduceLeDiff, Nat.reduceLT, Nat.reduceMul, Nat.reduceAdd, String.reduceEq, hneg]
            refine hQ .ret _ ?_; clear hQ Q; refine post_ret _ _ (.tup [.agg (encT (.mk 0 ByteArray.empty [] 0 [] [] (tk l n).p)), ii X.2]) ?_ ?_ (DropW.tail0 _ rfl) ⟨?_, rfl⟩
            · simp only [go_sem, Nat.reduceEqDiff, Nat.reduceBEq, Int.reduceToNat, Int.reduceLT, Int.reduceLE, Int.reduceEq, Nat.reduceLeDiff, Nat.reduceLT, Nat.reduceMul, Nat.reduceAdd, String.reduceEq, encT_eq, encE_eq, Stmt.k_mk, Stmt.s_mk, Stmt.x_mk, Stmt.n_mk, Stmt.b_mk, Stmt.e_mk, Stmt.p_mk, encEs, encTs, slE, slT, List.append_nil] <;> rfl
            · simp [IV.np, npL, npT]
            · rw [hgo]
          · rw [if_neg hneg] at hgo
            simp only [go_sem, Nat.reduceEqDiff, Nat.reduceBEq, Int.reduceToNat, Int.reduceLT, Int.reduceLE, Int.reduceEq, Nat.reduceLeDiff, Nat.reduceLT, Nat.reduceMul, Nat.reduceAdd, String.reduceEq, hneg]
            refine drn_of ⟨[], [], []⟩ [0, 0, 2, 7, 15] (by kernel_rfl) ?_
            simp only [go_sem, Nat.reduceEqDiff, Nat.reduceBEq, Int.reduceToNat, Int.reduceLT, Int.reduceLE, Int.reduceEq, Nat.reduceLeDiff, Nat.reduceLT, Nat.reduceMul, Nat.reduceAdd, String.reduceEq]
            refine cald_eq (bad_sim _ X.2 (by omega)) ?_
            simp only [go_sem, Nat.reduceEqDiff, Nat.reduceBEq, Int.reduceToNat, Int.reduceLT, Int.reduceLE, Int.reduceEq, Nat.reduceLeDiff, Nat.reduceLT, Nat.reduceMul, Nat.reduceAdd, String.reduceEq]
            refine hQ .ret _ ?_; clear hQ Q; refine post_ret _ _ (.tup [.agg (encT (.mk 0 ByteArray.empty [] 0 [] [] (tk l n).p)), ii (bad X.2)]) ?_ ?_ (DropW.tail0 _ rfl) ⟨?_, rfl⟩
            · simp only [go_sem, Nat.reduceEqDiff, Nat.reduceBEq, Int.reduceToNat, Int.reduceLT, Int.reduceLE, Int.reduceEq, Nat.reduceLeDiff, Nat.reduceLT, Nat.reduceMul, Nat.reduceAdd, String.reduceEq, encT_eq, encE_eq, Stmt.k_mk, Stmt.s_mk, Stmt.x_mk, Stmt.n_mk, Stmt.b_mk, Stmt.e_mk, Stmt.p_mk, encEs, encTs, slE, slT, List.append_nil] <;> rfl
            · simp [IV.np, npL, npT]
            · rw [hgo]
end Go.Proofs.Ytphjldhdnmoolaa.A
/- The walks of some functions over the abstract machine. -/
namespace Go.Proofs.Ytphjldhdnmoolaa.A
open Go
theorem np_sh {nr : Nat} : SK.np nr .sh = true := rfl
theorem np_full {nr : Nat} : SK.np nr .full = true := rfl
def SB (l : List Tok) (f : Nat) : Prop := ∀ (m : Mem) (p depth : Int), okA l p → 0 ≤ p → 3 * ((l.length : Int) - p) ≤ f → 0 ≤ depth → depth ≤ 12 → Sim 76 [slK l, ii p, ii depth] m (fun r m' => r = .tup [.agg (encT (stmtF l f p depth).1), ii (stmtF l f p depth).2] ∧ m' = m)
def BB (l : List Tok) (f : Nat) : Prop := ∀ (m : Mem) (p depth : Int), okA l p → (p < 0 → 2 ≤ f) → (0 ≤ p → 3 * ((l.length : Int) - p) + 2 ≤ f) → 0 ≤ depth → depth ≤ 12 → Sim 93 [slK l, ii p, ii depth] m (fun r m' => r = .tup [slT (blockF l f p depth).1, ii (blockF l f p depth).2] ∧ m' = m)
set_option maxRecDepth 100000 in
set_option maxHeartbeats 4000000 in
theorem stmt_step {l : List Tok} (T : Toks l) (hsz : ∀ p, (tk l p).s.size < 900000) {f : Nat} (ih : BB l f) : SB l (f + 1) := by
  intro m p depth ho h0 hen hd hd'
  have hp := ho
  obtain ⟨h1, h2⟩ := ho
  have hl := T.lt
  refine Sim.ofS 143 [.cell 6 104, .tmp 7] Try.func76 rfl rfl rfl (by simp) fun wr => ?_
  simp only [go_sem, Nat.reduceEqDiff, Nat.reduceBEq, Int.reduceToNat, Int.reduceLT, Int.reduceLE, Int.reduceEq, Nat.reduceLeDiff, Nat.reduceLT, Nat.reduceMul, Nat.reduceAdd, String.reduceEq]
  obtain ⟨n, rfl⟩ := nat_of (p := p) (by omega)
  have hlt : n < l.length := by omega
  have hat := encK_at (tk_at hlt)
  have hl3 := encK_lt hlt
  have hw : IntKind.i64.wrap ((n : Int) + 1) = (n : Int) + 1 := wrap_small (by omega) (by omega)
  have hgo : stmtF l (f + 1) n depth = stmtF l (f + 1) n depth := rfl
  conv at hgo => rhs; unfold stmtF
  have blk : ∀ q, adv l (n + 1) q → (q < 0 → 2 ≤ f) ∧ (0 ≤ q → 3 * ((l.length : Int) - q) + 2 ≤ f) := by
    intro q hq; unfold adv okA at *; omega
  refine TS.of [] fun Q hQ => ?_
  simp only [go_sem, Nat.reduceEqDiff, Nat.reduceBEq, Int.reduceToNat, Int.reduceLT, Int.reduceLE, Int.reduceEq, Nat.reduceLeDiff, Nat.reduceLT, Nat.reduceMul, Nat.reduceAdd, String.reduceEq, h0, hlt, hat, hl3]
  refine cal_eq (is_sim _ l n qLB h2) ?_
  cases hA : isP l n qLB with
  | true =>
    rw [if_pos hA] at hgo
    have hsub := fun m => cell_sim T hsz m n depth hp h0 hd (by omega)
    generalize cellS l n depth = X at hgo hsub
    simp only [go_sem, Nat.reduceEqDiff, Nat.reduceBEq, Int.reduceToNat, Int.reduceLT, Int.reduceLE, Int.reduceEq, Nat.reduceLeDiff, Nat.reduceLT, Nat.reduceMul, Nat.reduceAdd, String.reduceEq]
    refine cal_eq (hsub _) ?_
    simp only [go_sem, Nat.reduceEqDiff, Nat.reduceBEq, Int.reduceToNat, Int.reduceLT, Int.reduceLE, Int.reduceEq, Nat.reduceLeDiff, Nat.reduceLT, Nat.reduceMul, Nat.reduceAdd, String.reduceEq, encT_eq]
    refine hQ .ret _ ?_; clear hQ Q; refine post_ret _ _ (.tup [.agg (encT X.1), ii X.2]) ?_ ?_ (DropW.tail0 _ rfl) ⟨?_, rfl⟩
    · simp only [go_sem, Nat.reduceEqDiff, Nat.reduceBEq, Int.reduceToNat, Int.reduceLT, Int.reduceLE, Int.reduceEq, Nat.reduceLeDiff, Nat.reduceLT, Nat.reduceMul, Nat.reduceAdd, String.reduceEq, encT_eq, encE_eq, Stmt.k_mk, Stmt.s_mk, Stmt.x_mk, Stmt.n_mk, Stmt.b_mk, Stmt.e_mk, Stmt.p_mk, encEs, encTs, slE, slT, List.append_nil] <;> rfl
    · simp [IV.np, npL, npT]
    · rw [hgo]
  | false =>
    rw [if_neg (by simp [hA])] at hgo
    simp only [go_sem, Nat.reduceEqDiff, Nat.reduceBEq, Int.reduceToNat, Int.reduceLT, Int.reduceLE, Int.reduceEq, Nat.reduceLeDiff, Nat.reduceLT, Nat.reduceMul, Nat.reduceAdd, String.reduceEq]
    refine cal_eq (is_sim _ l n qLet h2) ?_
    cases hB : isP l n qLet with
    | true =>
      rw [if_pos hB] at hgo
      have hn1 := (isP_lt T hp hB).2
      have ha1 := wordP_adv T hn1
      have ha2 := eatP_adv T (t := qSet) ha1.1
      have hsub := fun m => expr_sim T hsz m (eatP l (wordP l (n + 1)).2 qSet) 1 depth ha2.1 hd (by omega) (by omega) (by omega)
      have ha3 := expr_adv1 T (least := 1) (depth := depth) ha2.1
      generalize hX : expr l (eatP l (wordP l (n + 1)).2 qSet) 1 depth = X at hgo hsub ha3
      simp only [go_sem, Nat.reduceEqDiff, Nat.reduceBEq, Int.reduceToNat, Int.reduceLT, Int.reduceLE, Int.reduceEq, Nat.reduceLeDiff, Nat.reduceLT, Nat.reduceMul, Nat.reduceAdd, String.reduceEq, hw]
      refine cal_eq (wordP_sim _ l (n + 1) hn1 hl) ?_
      simp only [go_sem, Nat.reduceEqDiff, Nat.reduceBEq, Int.reduceToNat, Int.reduceLT, Int.reduceLE, Int.reduceEq, Nat.reduceLeDiff, Nat.reduceLT, Nat.reduceMul, Nat.reduceAdd, String.reduceEq]
      refine cal_eq (eat_sim _ l (wordP l (n + 1)).2 qSet ha1.1 hl) ?_
      simp only [go_sem, Nat.reduceEqDiff, Nat.reduceBEq, Int.reduceToNat, Int.reduceLT, Int.reduceLE, Int.reduceEq, Nat.reduceLeDiff, Nat.reduceLT, Nat.reduceMul, Nat.reduceAdd, String.reduceEq]
      refine cal_eq (hsub _) ?_
      simp only [go_sem, Nat.reduceEqDiff, Nat.reduceBEq, Int.reduceToNat, Int.reduceLT, Int.reduceLE, Int.reduceEq, Nat.reduceLeDiff, Nat.reduceLT, Nat.reduceMul, Nat.reduceAdd, String.reduceEq, encE_eq]
      refine drn_of ⟨[], [], []⟩ [0, 0, 0, 6, 15, 31] (by kernel_rfl) ?_
      simp only [go_sem, Nat.reduceEqDiff, Nat.reduceBEq, Int.reduceToNat, Int.reduceLT, Int.reduceLE, Int.reduceEq, Nat.reduceLeDiff, Nat.reduceLT, Nat.reduceMul, Nat.reduceAdd, String.reduceEq]
      refine cald_eq (eat_sim _ l X.2 qSemi ha3.1 hl) ?_
      simp only [go_sem, Nat.reduceEqDiff, Nat.reduceBEq, Int.reduceToNat, Int.reduceLT, Int.reduceLE, Int.reduceEq, Nat.reduceLeDiff, Nat.reduceLT, Nat.reduceMul, Nat.reduceAdd, String.reduceEq]
      refine hQ .ret _ ?_; clear hQ Q; refine post_ret _ _ (.tup [.agg (encT (.mk 1 (wordP l (n + 1)).1 [X.1] 0 [] [] (tk l n).p)), ii (eatP l X.2 qSemi)]) ?_ ?_ (DropW.tail0 _ rfl) ⟨?_, rfl⟩
      · simp only [go_sem, Nat.reduceEqDiff, Nat.reduceBEq, Int.reduceToNat, Int.reduceLT, Int.reduceLE, Int.reduceEq, Nat.reduceLeDiff, Nat.reduceLT, Nat.reduceMul, Nat.reduceAdd, String.reduceEq, encT_eq, encE_eq, Stmt.k_mk, Stmt.s_mk, Stmt.x_mk, Stmt.n_mk, Stmt.b_mk, Stmt.e_mk, Stmt.p_mk, encEs, encTs, slE, slT, List.append_nil] <;> rfl
      · simp [IV.np, npL, npT]
      · rw [hgo]
    | false =>
      rw [if_neg (by simp [hB])] at hgo
      simp only [go_sem, Nat.reduceEqDiff, Nat.reduceBEq, Int.reduceToNat, Int.reduceLT, Int.reduceLE, Int.reduceEq, Nat.reduceLeDiff, Nat.reduceLT, Nat.reduceMul, Nat.reduceAdd, String.reduceEq]
      refine cal_eq (is_sim _ l n qIf h2) ?_
      cases hC : isP l n qIf with
      | true =>
        rw [if_pos hC] at hgo
        have hn1 := (isP_lt T hp hC).2
        have hsub := fun m => expr_sim T hsz m (n + 1) 1 depth hn1 hd (by omega) (by omega) (by omega)
        have ha1 := expr_adv1 T (least := 1) (depth := depth) hn1
        generalize expr l (n + 1) 1 depth = X at hgo hsub ha1
        have hb1 := blk _ ha1
        have hsub2 := fun m => ih m X.2 depth ha1.1 hb1.1 hb1.2 hd hd'
        have ha2 := (stmt_adv T f).2.1 X.2 depth ha1.1
        generalize blockF l f X.2 depth = Y at hgo hsub2 ha2
        simp only [go_sem, Nat.reduceEqDiff, Nat.reduceBEq, Int.reduceToNat, Int.reduceLT, Int.reduceLE, Int.reduceEq, Nat.reduceLeDiff, Nat.reduceLT, Nat.reduceMul, Nat.reduceAdd, String.reduceEq, hw]
        refine cal_eq (hsub _) ?_
        simp only [go_sem, Nat.reduceEqDiff, Nat.reduceBEq, Int.reduceToNat, Int.reduceLT, Int.reduceLE, Int.reduceEq, Nat.reduceLeDiff, Nat.reduceLT, Nat.reduceMul, Nat.reduceAdd, String.reduceEq, encE_eq]
        refine cal_eq (hsub2 _) ?_
        simp only [go_sem, Nat.reduceEqDiff, Nat.reduceBEq, Int.reduceToNat, Int.reduceLT, Int.reduceLE, Int.reduceEq, Nat.reduceLeDiff, Nat.reduceLT, Nat.reduceMul, Nat.reduceAdd, String.reduceEq]
        refine cal_eq (is_sim _ l Y.2 qElse ha2.1.2) ?_
        cases hE : isP l Y.2 qElse with
        | true =>
          have hn2 := isP_lt T ha2.1 hE
          rw [if_pos hE] at hgo
          have hb2 := blk (Y.2 + 1) ⟨hn2.2, by have := ha1.trans ha2; unfold adv okA at *; omega⟩
          have hsub3 := fun m => ih m (Y.2 + 1) depth hn2.2 hb2.1 hb2.2 hd hd'
          generalize blockF l f (Y.2 + 1) depth = V at hgo hsub3
          have hw2 : IntKind.i64.wrap (Y.2 + 1) = Y.2 + 1 := wrap_small (by omega) (by have := hn2.2.2; omega)
          simp only [go_sem, Nat.reduceEqDiff, Nat.reduceBEq, Int.reduceToNat, Int.reduceLT, Int.reduceLE, Int.reduceEq, Nat.reduceLeDiff, Nat.reduceLT, Nat.reduceMul, Nat.reduceAdd, String.reduceEq, hw2]
          refine cal_eq (hsub3 _) ?_
          simp only [go_sem, Nat.reduceEqDiff, Nat.reduceBEq, Int.reduceToNat, Int.reduceLT, Int.reduceLE, Int.reduceEq, Nat.reduceLeDiff, Nat.reduceLT, Nat.reduceMul, Nat.reduceAdd, String.reduceEq]
          refine hQ .ret _ ?_; clear hQ Q; refine post_ret _ _ (.tup [.agg (encT (.mk 6 ByteArray.empty [X.1] 0 Y.1 V.1 (tk l n).p)), ii V.2]) ?_ ?_ (DropW.tail0 _ rfl) ⟨?_, rfl⟩
          · simp only [go_sem, Nat.reduceEqDiff, Nat.reduceBEq, Int.reduceToNat, Int.reduceLT, Int.reduceLE, Int.reduceEq, Nat.reduceLeDiff, Nat.reduceLT, Nat.reduceMul, Nat.reduceAdd, String.reduceEq, encT_eq, encE_eq, Stmt.k_mk, Stmt.s_mk, Stmt.x_mk, Stmt.n_mk, Stmt.b_mk, Stmt.e_mk, Stmt.p_mk, encEs, encTs, slE, slT, List.append_nil] <;> rfl
          · simp [IV.np, npL, npT]
          · rw [hgo]
        | false =>
          rw [if_neg (by simp [hE])] at hgo
          simp only [go_sem, Nat.reduceEqDiff, Nat.reduceBEq, Int.reduceToNat, Int.reduceLT, Int.reduceLE, Int.reduceEq, Nat.reduceLeDiff, Nat.reduceLT, Nat.reduceMul, Nat.reduceAdd, String.reduceEq]
          refine hQ .ret _ ?_; clear hQ Q; refine post_ret _ _ (.tup [.agg (encT (.mk 6 ByteArray.empty [X.1] 0 Y.1 [] (tk l n).p)), ii Y.2]) ?_ ?_ (DropW.tail0 _ rfl) ⟨?_, rfl⟩
          · simp only [go_sem, Nat.reduceEqDiff, Nat.reduceBEq, Int.reduceToNat, Int.reduceLT, Int.reduceLE, Int.reduceEq, Nat.reduceLeDiff, Nat.reduceLT, Nat.reduceMul, Nat.reduceAdd, String.reduceEq, encT_eq, encE_eq, Stmt.k_mk, Stmt.s_mk, Stmt.x_mk, Stmt.n_mk, Stmt.b_mk, Stmt.e_mk, Stmt.p_mk, encEs, encTs, slE, slT, List.append_nil] <;> rfl
          · simp [IV.np, npL, npT]
          · rw [hgo]
      | false =>
        rw [if_neg (by simp [hC])] at hgo
        simp only [go_sem, Nat.reduceEqDiff, Nat.reduceBEq, Int.reduceToNat, Int.reduceLT, Int.reduceLE, Int.reduceEq, Nat.reduceLeDiff, Nat.reduceLT, Nat.reduceMul, Nat.reduceAdd, String.reduceEq]
        refine cal_eq (is_sim _ l n qFor h2) ?_
        cases hD : isP l n qFor with
        | true =>
          rw [if_pos hD] at hgo
          have hn1 := (isP_lt T hp hD).2
          have ha1 := wordP_adv T hn1
          have ha2 := eatP_adv T (t := qIn) ha1.1
          have ha3 := eatP_adv T (t := qZero) ha2.1
          have ha4 := eatP_adv T (t := qDots) ha3.1
          have ha5 := numP_adv T ha4.1
          have hb1 := blk _ ((((ha1.trans ha2).trans ha3).trans ha4).trans ha5)
          have hsub2 := fun m => ih m (numP l (eatP l (eatP l (eatP l (wordP l (n + 1)).2 qIn) qZero) qDots)).2 depth ha5.1 hb1.1 hb1.2 hd hd'
          simp only [go_sem, Nat.reduceEqDiff, Nat.reduceBEq, Int.reduceToNat, Int.reduceLT, Int.reduceLE, Int.reduceEq, Nat.reduceLeDiff, Nat.reduceLT, Nat.reduceMul, Nat.reduceAdd, String.reduceEq, hw]
          refine cal_eq (wordP_sim _ l (n + 1) hn1 hl) ?_
          simp only [go_sem, Nat.reduceEqDiff, Nat.reduceBEq, Int.reduceToNat, Int.reduceLT, Int.reduceLE, Int.reduceEq, Nat.reduceLeDiff, Nat.reduceLT, Nat.reduceMul, Nat.reduceAdd, String.reduceEq]
          refine cal_eq (eat_sim _ l _ qIn ha1.1 hl) ?_
          simp only [go_sem, Nat.reduceEqDiff, Nat.reduceBEq, Int.reduceToNat, Int.reduceLT, Int.reduceLE, Int.reduceEq, Nat.reduceLeDiff, Nat.reduceLT, Nat.reduceMul, Nat.reduceAdd, String.reduceEq]
          refine cal_eq (eat_sim _ l _ qZero ha2.1 hl) ?_
          simp only [go_sem, Nat.reduceEqDiff, Nat.reduceBEq, Int.reduceToNat, Int.reduceLT, Int.reduceLE, Int.reduceEq, Nat.reduceLeDiff, Nat.reduceLT, Nat.reduceMul, Nat.reduceAdd, String.reduceEq]
          refine cal_eq (eat_sim _ l _ qDots ha3.1 hl) ?_
          simp only [go_sem, Nat.reduceEqDiff, Nat.reduceBEq, Int.reduceToNat, Int.reduceLT, Int.reduceLE, Int.reduceEq, Nat.reduceLeDiff, Nat.reduceLT, Nat.reduceMul, Nat.reduceAdd, String.reduceEq]
          refine cal_eq (numP_sim _ l _ ha4.1 hl (hsz _)) ?_
          simp only [go_sem, Nat.reduceEqDiff, Nat.reduceBEq, Int.reduceToNat, Int.reduceLT, Int.reduceLE, Int.reduceEq, Nat.reduceLeDiff, Nat.reduceLT, Nat.reduceMul, Nat.reduceAdd, String.reduceEq]
          refine cal_eq (hsub2 _) ?_
          simp only [go_sem, Nat.reduceEqDiff, Nat.reduceBEq, Int.reduceToNat, Int.reduceLT, Int.reduceLE, Int.reduceEq, Nat.reduceLeDiff, Nat.reduceLT, Nat.reduceMul, Nat.reduceAdd, String.reduceEq]
          generalize numP l (eatP l (eatP l (eatP l (wordP l (n + 1)).2 qIn) qZero) qDots) = W at hgo
          refine hQ .ret _ ?_; clear hQ Q; refine post_ret _ _ (.tup [.agg (encT (.mk 7 (wordP l (n + 1)).1 [] W.1 (blockF l f W.2 depth).1 [] (tk l n).p)), ii (blockF l f W.2 depth).2]) ?_ ?_ (DropW.tail0 _ rfl) ⟨?_, rfl⟩
          · simp only [go_sem, Nat.reduceEqDiff, Nat.reduceBEq, Int.reduceToNat, Int.reduceLT, Int.reduceLE, Int.reduceEq, Nat.reduceLeDiff, Nat.reduceLT, Nat.reduceMul, Nat.reduceAdd, String.reduceEq, encT_eq, encE_eq, Stmt.k_mk, Stmt.s_mk, Stmt.x_mk, Stmt.n_mk, Stmt.b_mk, Stmt.e_mk, Stmt.p_mk, encEs, encTs, slE, slT, List.append_nil] <;> rfl
          · simp [IV.np, npL, npT]
          · rw [hgo]
        | false =>
          rw [if_neg (by simp [hD])] at hgo
          simp only [go_sem, Nat.reduceEqDiff, Nat.reduceBEq, Int.reduceToNat, Int.reduceLT, Int.reduceLE, Int.reduceEq, Nat.reduceLeDiff, Nat.reduceLT, Nat.reduceMul, Nat.reduceAdd, String.reduceEq]
          refine drn_of ⟨[], [], []⟩ [0, 0, 2, 7, 15] (by kernel_rfl) ?_
          simp only [go_sem, Nat.reduceEqDiff, Nat.reduceBEq, Int.reduceToNat, Int.reduceLT, Int.reduceLE, Int.reduceEq, Nat.reduceLeDiff, Nat.reduceLT, Nat.reduceMul, Nat.reduceAdd, String.reduceEq]
          refine cald_eq (bad_sim _ n (by omega)) ?_
          simp only [go_sem, Nat.reduceEqDiff, Nat.reduceBEq, Int.reduceToNat, Int.reduceLT, Int.reduceLE, Int.reduceEq, Nat.reduceLeDiff, Nat.reduceLT, Nat.reduceMul, Nat.reduceAdd, String.reduceEq]
          refine hQ .ret _ ?_; clear hQ Q; refine post_ret _ _ (.tup [.agg (encT (.mk 0 ByteArray.empty [] 0 [] [] (tk l n).p)), ii (bad n)]) ?_ ?_ (DropW.tail0 _ rfl) ⟨?_, rfl⟩
          · simp only [go_sem, Nat.reduceEqDiff, Nat.reduceBEq, Int.reduceToNat, Int.reduceLT, Int.reduceLE, Int.reduceEq, Nat.reduceLeDiff, Nat.reduceLT, Nat.reduceMul, Nat.reduceAdd, String.reduceEq, encT_eq, encE_eq, Stmt.k_mk, Stmt.s_mk, Stmt.x_mk, Stmt.n_mk, Stmt.b_mk, Stmt.e_mk, Stmt.p_mk, encEs, encTs, slE, slT, List.append_nil] <;> rfl
          · simp [IV.np, npL, npT]
          · rw [hgo]
set_option maxRecDepth 100000 in
set_option maxHeartbeats 4000000 in
theorem block_step {l : List Tok} (T : Toks l) {f : Nat} (hf5 : f ≤ 5000000) (ih : ∀ g, g ≤ f → SB l g) : BB l (f + 1) := by
  intro m p depth ho hn hen hd hd'
  have hp := ho
  obtain ⟨h1, h2⟩ := ho
  have hl := T.lt
  refine Sim.ofS 48 [.tmp 6, .tmp 7] Try.func93 rfl rfl rfl (by simp) fun wr => ?_
  simp only [go_sem, Nat.reduceEqDiff, Nat.reduceBEq, Int.reduceToNat, Int.reduceLT, Int.reduceLE, Int.reduceEq, Nat.reduceLeDiff, Nat.reduceLT, Nat.reduceMul, Nat.reduceAdd, String.reduceEq]
  refine TS.seq (TS.of [] fun Q hQ => ?_)
  simp only [go_sem, Nat.reduceEqDiff, Nat.reduceBEq, Int.reduceToNat, Int.reduceLT, Int.reduceLE, Int.reduceEq, Nat.reduceLeDiff, Nat.reduceLT, Nat.reduceMul, Nat.reduceAdd, String.reduceEq]
  refine hQ .normal _ ?_; clear hQ Q
  have he := eatP_adv T (t := qLC) hp
  by_cases hc : (decide (12 ≤ depth) && isP l p qLC) = true
  · have hgo : blockF l (f + 1) p depth = ([], bad p) := by rw [blockF, if_pos hc]
    simp only [Bool.and_eq_true, decide_eq_true_eq] at hc
    have := (isP_lt T hp hc.2).1
    refine TS.seq (TS.of [] fun Q hQ => ?_)
    simp only [go_sem, Nat.reduceEqDiff, Nat.reduceBEq, Int.reduceToNat, Int.reduceLT, Int.reduceLE, Int.reduceEq, Nat.reduceLeDiff, Nat.reduceLT, Nat.reduceMul, Nat.reduceAdd, String.reduceEq, hc]
    refine cal_eq (is_sim _ l p qLC h2) ?_
    simp only [go_sem, Nat.reduceEqDiff, Nat.reduceBEq, Int.reduceToNat, Int.reduceLT, Int.reduceLE, Int.reduceEq, Nat.reduceLeDiff, Nat.reduceLT, Nat.reduceMul, Nat.reduceAdd, String.reduceEq, hc]
    refine cal_eq (bad_sim _ p (by omega)) ?_
    simp only [go_sem, Nat.reduceEqDiff, Nat.reduceBEq, Int.reduceToNat, Int.reduceLT, Int.reduceLE, Int.reduceEq, Nat.reduceLeDiff, Nat.reduceLT, Nat.reduceMul, Nat.reduceAdd, String.reduceEq]
    refine hQ .ret _ ?_; exact post_ret _ _ _ rfl rfl (DropW.refl _) ⟨by rw [hgo]; rfl, rfl⟩
  have hgo : blockF l (f + 1) p depth = loopB l f [] (eatP l p qLC) depth := by rw [blockF, if_neg hc]
  rw [hgo]
  generalize htgt : loopB l f [] (eatP l p qLC) depth = tgt
  have hdp : depth < 12 ∨ eatP l p qLC < 0 := by
    by_cases hd12 : depth < 12
    · exact .inl hd12
    · right
      have hi : isP l p qLC = false := by
        cases h : isP l p qLC with
        | false => rfl
        | true => exfalso; apply hc; rw [h]; simp; omega
      unfold eatP bad
      rw [hi]
      by_cases h0 : p < 0
      · simp [h0]
      · simp [h0]; omega
  refine TS.seq (TS.mono (Q := fun e s' => e = .normal ∧ (s'.t 0 = slK l ∧ s'.t 1 = ii p ∧ s'.t 2 = ii depth) ∧ s'.m = m) ?_ ?_)
  · by_cases hd12 : 12 ≤ depth
    · have hi : isP l p qLC = false := by simpa [hd12] using hc
      refine TS.of [] fun Q hQ => ?_
      simp only [go_sem, Nat.reduceEqDiff, Nat.reduceBEq, Int.reduceToNat, Int.reduceLT, Int.reduceLE, Int.reduceEq, Nat.reduceLeDiff, Nat.reduceLT, Nat.reduceMul, Nat.reduceAdd, String.reduceEq, hd12]
      refine cal_eq (is_sim _ l p qLC h2) ?_
      simp only [go_sem, Nat.reduceEqDiff, Nat.reduceBEq, Int.reduceToNat, Int.reduceLT, Int.reduceLE, Int.reduceEq, Nat.reduceLeDiff, Nat.reduceLT, Nat.reduceMul, Nat.reduceAdd, String.reduceEq, hi]
      refine hQ .normal _ ?_; clear hQ Q
      exact ⟨rfl, by simp [upd_apply, argsT], rfl⟩
    · refine TS.of [] fun Q hQ => ?_
      simp only [go_sem, Nat.reduceEqDiff, Nat.reduceBEq, Int.reduceToNat, Int.reduceLT, Int.reduceLE, Int.reduceEq, Nat.reduceLeDiff, Nat.reduceLT, Nat.reduceMul, Nat.reduceAdd, String.reduceEq, hd12]
      refine hQ .normal _ ?_; clear hQ Q
      exact ⟨rfl, by simp [upd_apply, argsT], rfl⟩
  rintro e s1 ⟨rfl, ⟨j0, j1, j2⟩, hm1⟩
  refine TS.seq (TS.of [] fun Q hQ => ?_)
  simp only [go_sem, Nat.reduceEqDiff, Nat.reduceBEq, Int.reduceToNat, Int.reduceLT, Int.reduceLE, Int.reduceEq, Nat.reduceLeDiff, Nat.reduceLT, Nat.reduceMul, Nat.reduceAdd, String.reduceEq, j0, j1, j2, hm1]
  refine cal_eq (eat_sim _ l p qLC hp hl) ?_
  simp only [go_sem, Nat.reduceEqDiff, Nat.reduceBEq, Int.reduceToNat, Int.reduceLT, Int.reduceLE, Int.reduceEq, Nat.reduceLeDiff, Nat.reduceLT, Nat.reduceMul, Nat.reduceAdd, String.reduceEq]
  refine hQ .normal _ ?_; clear hQ Q
  refine TS.seq (TS.of [] fun Q hQ => ?_)
  simp only [go_sem, Nat.reduceEqDiff, Nat.reduceBEq, Int.reduceToNat, Int.reduceLT, Int.reduceLE, Int.reduceEq, Nat.reduceLeDiff, Nat.reduceLT, Nat.reduceMul, Nat.reduceAdd, String.reduceEq]
  refine hQ .normal _ ?_; clear hQ Q
  refine TS.seq (TS.block (TS.loop (α := Nat × List Stmt × Int) (fun x => [(0, slK l), (1, ii x.2.2), (2, ii depth), (8, .sl (accK m.rows.length 104 x.2.1.length) x.2.1.length (encTs x.2.1))]) (fun x => accM m x.2.1.length) (fun x => x.1 ≤ f ∧ okA l x.2.2 ∧ ((x.2.2 < 0 → 1 ≤ x.1) ∧ (0 ≤ x.2.2 → 3 * ((l.length : Int) - x.2.2) + 1 ≤ x.1)) ∧ (depth < 12 ∨ x.2.2 < 0) ∧ x.2.1.length ≤ f - x.1 ∧ loopB l x.1 x.2.1 x.2.2 depth = tgt) (fun x => x.1) (f, [], eatP l p qLC) (by simp) ⟨by simp [Has, upd_apply, j0, j1, j2, accK, encTs], rfl, ⟨Nat.le_refl _, he.1, by dsimp only; unfold adv okA at *; omega, hdp, by simp, htgt⟩⟩ ?_))
  clear htgt
  rintro ⟨g, acc, q⟩ st hH hm ⟨hgf, hq, hge, hdq, hal, hcc⟩
  dsimp only at hH hm hgf hq hge hdq hal hcc
  simp only [Has, List.mem_cons, List.not_mem_nil, or_false, forall_eq_or_imp, forall_eq] at hH; obtain ⟨i0, i1, i2, i8⟩ := hH
  obtain ⟨g, rfl⟩ : ∃ j, g = j + 1 := ⟨g - 1, by unfold okA at hq; omega⟩
  obtain ⟨hq1, hq2⟩ := id hq
  rw [loopB] at hcc
  by_cases hrun : (decide (0 ≤ q) && !isP l q qRC) = true
  · rw [if_pos hrun] at hcc
    simp only [Bool.and_eq_true, Bool.not_eq_true', decide_eq_true_eq] at hrun
    obtain ⟨hq0, hi⟩ := hrun
    have hsub := fun m => ih g (by omega) m q (depth + 1) hq hq0 (by omega) (by omega) (by omega)
    have ha := (stmt_adv T g).1 q (depth + 1) hq hq0
    generalize stmtF l g q (depth + 1) = X at hcc hsub ha
    have hw : IntKind.i64.wrap (depth + 1) = depth + 1 := wrap_small (by omega) (by omega)
    have hlen : (encTs acc).length = acc.length * 7 := encTs_length acc
    have happ := acc_app m 104 acc.length 1 (by decide)
    have hbound : (acc.length + 1) * 112 ≤ 140737488355328 := by omega
    refine TS.of [] fun Q hQ => ?_
    simp only [go_sem, Nat.reduceEqDiff, Nat.reduceBEq, Int.reduceToNat, Int.reduceLT, Int.reduceLE, Int.reduceEq, Nat.reduceLeDiff, Nat.reduceLT, Nat.reduceMul, Nat.reduceAdd, String.reduceEq, i0, i1, i2, i8, hm, hq0]
    refine cal_eq (is_sim _ l q qRC hq2) ?_
    simp only [go_sem, Nat.reduceEqDiff, Nat.reduceBEq, Int.reduceToNat, Int.reduceLT, Int.reduceLE, Int.reduceEq, Nat.reduceLeDiff, Nat.reduceLT, Nat.reduceMul, Nat.reduceAdd, String.reduceEq, hi, i0, i1, i2, i8, hm, hw]
    refine cal_eq (hsub _) ?_
    simp only [go_sem, Nat.reduceEqDiff, Nat.reduceBEq, Int.reduceToNat, Int.reduceLT, Int.reduceLE, Int.reduceEq, Nat.reduceLeDiff, Nat.reduceLT, Nat.reduceMul, Nat.reduceAdd, String.reduceEq, encT_eq, i0, i1, i2, i8, hlen, happ, hbound]
    refine hQ .normal _ ?_; clear hQ Q
    have hl1 : (acc ++ [X.1] : List Stmt).length = acc.length + 1 := by simp
    refine ⟨_, _, (g, acc ++ [X.1], X.2), DropW.acc [_] rfl rfl ?_ ?_, ?_, ⟨by dsimp only; omega, by dsimp only; exact ha.1, by dsimp only; unfold adv okA at *; omega, ?_, by dsimp only; rw [hl1]; omega, hcc⟩, by dsimp only; omega⟩
    · dsimp only; rw [hl1]
    · dsimp only; rw [hl1]; exact accM_len m _ _
    · dsimp only
      rw [hl1]
      simp [upd_apply, i0, i2, encTs_app, encTs, encT_eq X.1, IV.np, np_sh, accK_np, npK, npL_app, npTs, npEs, npL]
    · dsimp only; unfold adv at ha; omega
  · rw [if_neg hrun] at hcc
    have hend := eatP_adv T (t := qRC) hq
    by_cases hq0 : 0 ≤ q
    · have hi : isP l q qRC = true := by simpa [hq0] using hrun
      refine TS.of [] fun Q hQ => ?_
      simp only [go_sem, Nat.reduceEqDiff, Nat.reduceBEq, Int.reduceToNat, Int.reduceLT, Int.reduceLE, Int.reduceEq, Nat.reduceLeDiff, Nat.reduceLT, Nat.reduceMul, Nat.reduceAdd, String.reduceEq, i0, i1, i2, i8, hm, hq0]
      refine cal_eq (is_sim _ l q qRC hq2) ?_
      simp only [go_sem, Nat.reduceEqDiff, Nat.reduceBEq, Int.reduceToNat, Int.reduceLT, Int.reduceLE, Int.reduceEq, Nat.reduceLeDiff, Nat.reduceLT, Nat.reduceMul, Nat.reduceAdd, String.reduceEq, hi, i0, i1, i2, i8, hm]
      refine hQ (.exit 0) _ ?_; clear hQ Q
      refine TS.of [] fun Q hQ => ?_
      simp only [go_sem, Nat.reduceEqDiff, Nat.reduceBEq, Int.reduceToNat, Int.reduceLT, Int.reduceLE, Int.reduceEq, Nat.reduceLeDiff, Nat.reduceLT, Nat.reduceMul, Nat.reduceAdd, String.reduceEq, i0, i1, i2, i8, hm]
      refine cal_eq (eat_sim _ l q qRC hq hl) ?_
      simp only [go_sem, Nat.reduceEqDiff, Nat.reduceBEq, Int.reduceToNat, Int.reduceLT, Int.reduceLE, Int.reduceEq, Nat.reduceLeDiff, Nat.reduceLT, Nat.reduceMul, Nat.reduceAdd, String.reduceEq]
      refine hQ .ret _ ?_; clear hQ Q
      refine post_ret m.objs.length m.rows.length (.tup [slT acc, ii (eatP l q qRC)]) ?_ ?_ ?_ ⟨by rw [← hcc], rfl⟩
      · simp only [go_sem, Nat.reduceEqDiff, Nat.reduceBEq, Int.reduceToNat, Int.reduceLT, Int.reduceLE, Int.reduceEq, Nat.reduceLeDiff, Nat.reduceLT, Nat.reduceMul, Nat.reduceAdd, String.reduceEq]
      · simp [IV.np, npL, SK.np, npTs]
      · exact DropW.rows_ (if acc.length = 0 then [] else [acc.length]) rfl (by unfold accM; dsimp only; split <;> simp)
    · refine TS.of [] fun Q hQ => ?_
      simp only [go_sem, Nat.reduceEqDiff, Nat.reduceBEq, Int.reduceToNat, Int.reduceLT, Int.reduceLE, Int.reduceEq, Nat.reduceLeDiff, Nat.reduceLT, Nat.reduceMul, Nat.reduceAdd, String.reduceEq, i0, i1, i2, i8, hm, hq0]
      refine hQ (.exit 0) _ ?_; clear hQ Q
      refine TS.of [] fun Q hQ => ?_
      simp only [go_sem, Nat.reduceEqDiff, Nat.reduceBEq, Int.reduceToNat, Int.reduceLT, Int.reduceLE, Int.reduceEq, Nat.reduceLeDiff, Nat.reduceLT, Nat.reduceMul, Nat.reduceAdd, String.reduceEq, i0, i1, i2, i8, hm]
      refine cal_eq (eat_sim _ l q qRC hq hl) ?_
      simp only [go_sem, Nat.reduceEqDiff, Nat.reduceBEq, Int.reduceToNat, Int.reduceLT, Int.reduceLE, Int.reduceEq, Nat.reduceLeDiff, Nat.reduceLT, Nat.reduceMul, Nat.reduceAdd, String.reduceEq]
      refine hQ .ret _ ?_; clear hQ Q
      refine post_ret m.objs.length m.rows.length (.tup [slT acc, ii (eatP l q qRC)]) ?_ ?_ ?_ ⟨by rw [← hcc], rfl⟩
      · simp only [go_sem, Nat.reduceEqDiff, Nat.reduceBEq, Int.reduceToNat, Int.reduceLT, Int.reduceLE, Int.reduceEq, Nat.reduceLeDiff, Nat.reduceLT, Nat.reduceMul, Nat.reduceAdd, String.reduceEq]
      · simp [IV.np, npL, SK.np, npTs]
      · exact DropW.rows_ (if acc.length = 0 then [] else [acc.length]) rfl (by unfold accM; dsimp only; split <;> simp)
theorem stmt_all {l : List Tok} (T : Toks l) (hsz : ∀ p, (tk l p).s.size < 900000) : ∀ f, f ≤ 5000000 → (∀ g, g ≤ f → SB l g) ∧ BB l f := by
  have z : SB l 0 ∧ BB l 0 := by
    refine ⟨fun m p depth ho h0 hen => ?_, fun m p depth ho hn hen => ?_⟩ <;> (exfalso; unfold okA at *; omega)
  intro f
  induction f with
  | zero => exact fun _ => ⟨fun g hg => by obtain rfl : g = 0 := by omega
                                           exact z.1, z.2⟩
  | succ f ih =>
    intro hf
    obtain ⟨h1, h2⟩ := ih (by omega)
    refine ⟨fun g hg => ?_, block_step T (by omega) h1⟩
    by_cases e : g = f + 1
    · subst e; exact stmt_step T hsz h2
    · exact h1 g (by omega)
theorem stmt_sim {l : List Tok} (T : Toks l) (hsz : ∀ p, (tk l p).s.size < 900000) (m : Mem) (p : Int) (ho : okA l p) (h0 : 0 ≤ p) : Sim 76 [slK l, ii p, ii 1] m (fun r m' => r = .tup [.agg (encT (stmt l p 1).1), ii (stmt l p 1).2] ∧ m' = m) :=
  (stmt_all T hsz (fuelS l) (by have := T.lt; unfold fuelS; omega)).1 _ (Nat.le_refl _) m p 1 ho h0 (by unfold fuelS okA at *; omega) (by omega) (by omega)
end Go.Proofs.Ytphjldhdnmoolaa.A
/- The walks of some functions over the abstract machine. -/
namespace Go.Proofs.Ytphjldhdnmoolaa.A
open Go
theorem accM_lt {m : Mem} {n : Nat} (h : n ≠ 0) : m.rows.length < (accM m n).rows.length := by unfold accM; dsimp only; rw [if_neg h]; simp
theorem accM_ge {m : Mem} {n : Nat} : m.rows.length ≤ (accM m n).rows.length := by unfold accM; dsimp only; split <;> simp
theorem accK_np2 {r0 n nr : Nat} {e : TypeId} (h : n ≠ 0 → r0 < nr) : (accK r0 e n).np nr = true := by
  unfold accK; split
  · rfl
  · simp only [SK.np, decide_eq_true_eq]; exact h (by assumption)
theorem accM_take (m : Mem) (n : Nat) : (accM m n).rows.take m.rows.length = m.rows := by unfold accM; dsimp only; split <;> simp
abbrev F0 : IV := .sl .full 0 []
abbrev zD : List IV := [ss ByteArray.empty, F0, F0, F0, F0]
abbrev slP (r0 : Nat) (l : List Bytes) : IV := .sl (accK r0 9 l.length) l.length (l.map (IV.v <| .string ·))
abbrev slN (r0 : Nat) (l : List Expr) : IV := .sl (accK r0 99 l.length) l.length (encEs l)
abbrev slB (r0 : Nat) (l : List Stmt) : IV := .sl (accK r0 104 l.length) l.length (encTs l)
theorem slP_app {r0 : Nat} {l : List Bytes} {x : Bytes} : slP r0 (l ++ [x]) = .sl (accK r0 9 (l.length + 1)) (l.length + 1) (l.map (IV.v <| .string ·) ++ [ss x]) := by simp [slP]
theorem slN_app {r0 : Nat} {l : List Expr} {x : Expr} : slN r0 (l ++ [x]) = .sl (accK r0 99 (l.length + 1)) (l.length + 1) (encEs l ++ [ii x.k, ii x.n, ss x.s, slE x.a, ii x.p]) := by simp [slN, encEs_app, encEs, encE_eq]
theorem slB_app {r0 : Nat} {l : List Stmt} {x : Stmt} : slB r0 (l ++ [x]) = .sl (accK r0 104 (l.length + 1)) (l.length + 1) (encTs l ++ [ii x.k, ss x.s, slE x.x, ii x.n, slT x.b, slT x.e, ii x.p]) := by simp [slB, encTs_app, encTs, encT_eq]
theorem loopP_adv {l : List Tok} (T : Toks l) : ∀ f acc p b, okA l p → okA l (loopP l f acc p b).2
  | 0, _, _, _, _ => okA_neg T
  | f + 1, acc, p, b, ho => by
    rw [loopP]
    have hw := wordP_adv T ho
    split
    · split
      · exact loopP_adv T f _ _ _ (isP_lt T hw.1 (by assumption)).2
      · exact hw.1
    · exact ho
theorem loopN_adv {l : List Tok} (T : Toks l) : ∀ f acc p, okA l p → okA l (loopN l f acc p).2
  | 0, _, _, _ => okA_neg T
  | f + 1, acc, p, ho => by
    rw [loopN]
    split
    · have h1 := expr_adv1 T (least := 1) (depth := 1) (isP_lt T ho (by assumption)).2
      exact loopN_adv T f _ _ (eatP_adv T h1.1).1
    · exact ho
theorem loopD_adv {l : List Tok} (T : Toks l) : ∀ f acc p, okA l p → okA l (loopD l f acc p).2
  | 0, _, _, _ => okA_neg T
  | f + 1, acc, p, ho => by
    rw [loopD]
    split
    · rename_i h
      simp only [Bool.and_eq_true, decide_eq_true_eq] at h
      exact loopD_adv T f _ _ (stmt_adv1 T ho h.1).1
    · exact ho
set_option maxRecDepth 100000 in
set_option maxHeartbeats 4000000 in
theorem defP_sim {l : List Tok} (T : Toks l) (hsz : ∀ p, (tk l p).s.size < 900000) (m : Mem) : Sim 46 [slK l] m (fun r m' => r = .tup [.agg (encD (defP l).1), ii (defP l).2] ∧ m' = m) := by
  have hl := T.lt
  have hl0 := T.pos
  refine Sim.ofS 133 [.cell 2 27, .tmp 3] Try.func46 rfl rfl rfl (by simp) fun wr => ?_
  simp only [go_sem, Nat.reduceEqDiff, Nat.reduceBEq, Int.reduceToNat, Int.reduceLT, Int.reduceLE, Int.reduceEq, Nat.reduceLeDiff, Nat.reduceLT, Nat.reduceMul, Nat.reduceAdd, String.reduceEq]
  have ho0 : okA l 0 := ⟨by omega, by omega⟩
  have ha1 := eatP_adv T (t := qOp) ho0
  have ha2 := wordP_adv T ha1.1
  have ha3 := eatP_adv T (t := qLP) ha2.1
  generalize hname : wordP l (eatP l 0 qOp) = name at ha2 ha3
  refine TS.seq (TS.of [] fun Q hQ => ?_)
  simp only [go_sem, Nat.reduceEqDiff, Nat.reduceBEq, Int.reduceToNat, Int.reduceLT, Int.reduceLE, Int.reduceEq, Nat.reduceLeDiff, Nat.reduceLT, Nat.reduceMul, Nat.reduceAdd, String.reduceEq]
  refine hQ .normal _ ?_; clear hQ Q
  refine TS.seq (TS.of [] fun Q hQ => ?_)
  simp only [go_sem, Nat.reduceEqDiff, Nat.reduceBEq, Int.reduceToNat, Int.reduceLT, Int.reduceLE, Int.reduceEq, Nat.reduceLeDiff, Nat.reduceLT, Nat.reduceMul, Nat.reduceAdd, String.reduceEq]
  refine hQ .normal _ ?_; clear hQ Q
  refine TS.seq (TS.of [] fun Q hQ => ?_)
  simp only [go_sem, Nat.reduceEqDiff, Nat.reduceBEq, Int.reduceToNat, Int.reduceLT, Int.reduceLE, Int.reduceEq, Nat.reduceLeDiff, Nat.reduceLT, Nat.reduceMul, Nat.reduceAdd, String.reduceEq]
  refine cal_eq (eat_sim _ l 0 qOp ho0 hl) ?_
  simp only [go_sem, Nat.reduceEqDiff, Nat.reduceBEq, Int.reduceToNat, Int.reduceLT, Int.reduceLE, Int.reduceEq, Nat.reduceLeDiff, Nat.reduceLT, Nat.reduceMul, Nat.reduceAdd, String.reduceEq]
  refine cal_eq (wordP_sim _ l _ ha1.1 hl) ?_
  simp only [go_sem, Nat.reduceEqDiff, Nat.reduceBEq, Int.reduceToNat, Int.reduceLT, Int.reduceLE, Int.reduceEq, Nat.reduceLeDiff, Nat.reduceLT, Nat.reduceMul, Nat.reduceAdd, String.reduceEq, hname]
  refine hQ .normal _ ?_; clear hQ Q
  refine TS.seq (TS.of [] fun Q hQ => ?_)
  simp only [go_sem, Nat.reduceEqDiff, Nat.reduceBEq, Int.reduceToNat, Int.reduceLT, Int.reduceLE, Int.reduceEq, Nat.reduceLeDiff, Nat.reduceLT, Nat.reduceMul, Nat.reduceAdd, String.reduceEq]
  refine hQ .normal _ ?_; clear hQ Q
  refine TS.seq (TS.of [] fun Q hQ => ?_)
  simp only [go_sem, Nat.reduceEqDiff, Nat.reduceBEq, Int.reduceToNat, Int.reduceLT, Int.reduceLE, Int.reduceEq, Nat.reduceLeDiff, Nat.reduceLT, Nat.reduceMul, Nat.reduceAdd, String.reduceEq]
  refine cal_eq (eat_sim _ l name.2 qLP ha2.1 hl) ?_
  simp only [go_sem, Nat.reduceEqDiff, Nat.reduceBEq, Int.reduceToNat, Int.reduceLT, Int.reduceLE, Int.reduceEq, Nat.reduceLeDiff, Nat.reduceLT, Nat.reduceMul, Nat.reduceAdd, String.reduceEq]
  refine hQ .normal _ ?_; clear hQ Q
  -- the parameters
  generalize hpar : loopP l (l.length + 2) [] (eatP l name.2 qLP) true = par
  have hpo : okA l par.2 := by rw [← hpar]; exact loopP_adv T _ _ _ _ ha3.1
  refine TS.seq (TS.mono (Q := fun e s => e = .normal ∧ (s.t 0 = slK l ∧ s.t 2 = .ptr m.objs.length 0 ∧ s.t 4 = .ptr (m.objs.length + 1) 0 ∧ s.t 6 = ii par.2) ∧ s.m = ⟨m.objs ++ [.cells zD, .cells [ss name.1, slP m.rows.length par.1, F0, F0, F0]], (accM m par.1.length).rows⟩ ∧ par.1.length ≤ 3000000) ?_ ?_)
  · refine TS.seq (TS.of [] fun Q hQ => ?_)
    simp only [go_sem, Nat.reduceEqDiff, Nat.reduceBEq, Int.reduceToNat, Int.reduceLT, Int.reduceLE, Int.reduceEq, Nat.reduceLeDiff, Nat.reduceLT, Nat.reduceMul, Nat.reduceAdd, String.reduceEq]
    refine hQ .normal _ ?_; clear hQ Q
    refine TS.block (TS.loop (α := Nat × List Bytes × Int × Bool) (fun x => [(0, slK l), (2, .ptr m.objs.length 0), (4, .ptr (m.objs.length + 1) 0), (6, ii x.2.2.1), (7, bb x.2.2.2)]) (fun x => ⟨m.objs ++ [.cells zD, .cells [ss name.1, slP m.rows.length x.2.1, F0, F0, F0]], (accM m x.2.1.length).rows⟩) (fun x => x.1 ≤ l.length + 2 ∧ okA l x.2.2.1 ∧ 1 ≤ x.1 ∧ (0 ≤ x.2.2.1 → (l.length : Int) - x.2.2.1 + 1 ≤ x.1) ∧ x.2.1.length + x.1 ≤ l.length + 2 ∧ loopP l x.1 x.2.1 x.2.2.1 x.2.2.2 = par) (fun x => x.1) (l.length + 2, [], eatP l name.2 qLP, true) (by simp) ⟨by simp [Has, upd_apply, argsT], rfl, ⟨Nat.le_refl _, ha3.1, by dsimp only; omega, by dsimp only; intro _; omega, by simp, hpar⟩⟩ ?_)
    rintro ⟨g, acc, q, b⟩ st hH hm ⟨hgf, hq, hg1, hge, hal, hcc⟩
    dsimp only at hH hm hgf hq hg1 hge hal hcc
    simp only [Has, List.mem_cons, List.not_mem_nil, or_false, forall_eq_or_imp, forall_eq] at hH; obtain ⟨i0, i2, i4, i6, i7⟩ := hH
    obtain ⟨g, rfl⟩ : ∃ j, g = j + 1 := ⟨g - 1, by omega⟩
    obtain ⟨hq1, hq2⟩ := id hq
    rw [loopP] at hcc
    have hlen : (acc.map (fun s => (IV.v (.string s)))).length = acc.length := by simp
    have happ := acc_app m 9 acc.length 1 (by decide)
    have hbound : (acc.length + 1) * 16 ≤ 140737488355328 := by omega
    have hw := wordP_adv T hq
    by_cases hrun : (decide (0 ≤ q) && !(b && isP l q qRP)) = true
    · rw [if_pos hrun] at hcc
      simp only [Bool.and_eq_true, decide_eq_true_eq] at hrun
      obtain ⟨hq0, hbi⟩ := hrun
      have hl1 : (acc ++ [(wordP l q).1] : List Bytes).length = acc.length + 1 := by simp
      -- the test
      refine TS.seq (TS.mono (Q := fun e s => e = .normal ∧ (s.t 0 = slK l ∧ s.t 2 = .ptr m.objs.length 0 ∧ s.t 4 = .ptr (m.objs.length + 1) 0 ∧ s.t 6 = ii q ∧ s.t 7 = bb b) ∧ s.m = st.m) ?_ ?_)
      · cases b with
        | false =>
          refine TS.of [] fun Q hQ => ?_
          simp only [go_sem, Nat.reduceEqDiff, Nat.reduceBEq, Int.reduceToNat, Int.reduceLT, Int.reduceLE, Int.reduceEq, Nat.reduceLeDiff, Nat.reduceLT, Nat.reduceMul, Nat.reduceAdd, String.reduceEq, i0, i2, i4, i6, i7, hm, hq0]
          refine hQ .normal _ ?_; clear hQ Q
          exact ⟨rfl, by simp [upd_apply, i0, i2, i4, i6, i7], hm.symm⟩
        | true =>
          have hi : isP l q qRP = false := by simpa using hbi
          refine TS.of [] fun Q hQ => ?_
          simp only [go_sem, Nat.reduceEqDiff, Nat.reduceBEq, Int.reduceToNat, Int.reduceLT, Int.reduceLE, Int.reduceEq, Nat.reduceLeDiff, Nat.reduceLT, Nat.reduceMul, Nat.reduceAdd, String.reduceEq, i0, i2, i4, i6, i7, hm, hq0]
          refine cal_eq (is_sim _ l q qRP hq2) ?_
          simp only [go_sem, Nat.reduceEqDiff, Nat.reduceBEq, Int.reduceToNat, Int.reduceLT, Int.reduceLE, Int.reduceEq, Nat.reduceLeDiff, Nat.reduceLT, Nat.reduceMul, Nat.reduceAdd, String.reduceEq, hi]
          refine hQ .normal _ ?_; clear hQ Q
          exact ⟨rfl, by simp [upd_apply, i0, i2, i4, i6, i7], hm.symm⟩
      rintro e s1 ⟨rfl, ⟨j0, j2, j4, j6, j7⟩, hm1⟩
      rw [hm] at hm1
      refine TS.of [] fun Q hQ => ?_
      simp only [go_sem, Nat.reduceEqDiff, Nat.reduceBEq, Int.reduceToNat, Int.reduceLT, Int.reduceLE, Int.reduceEq, Nat.reduceLeDiff, Nat.reduceLT, Nat.reduceMul, Nat.reduceAdd, String.reduceEq, j0, j2, j4, j6, j7, hm1]
      refine cal_eq (wordP_sim _ l q hq hl) ?_
      simp only [go_sem, Nat.reduceEqDiff, Nat.reduceBEq, Int.reduceToNat, Int.reduceLT, Int.reduceLE, Int.reduceEq, Nat.reduceLeDiff, Nat.reduceLT, Nat.reduceMul, Nat.reduceAdd, String.reduceEq, j0, j2, j4, j6, j7, hlen, happ, hbound]
      refine cal_eq (is_sim _ l (wordP l q).2 qComma hw.1.2) ?_
      cases hcm : isP l (wordP l q).2 qComma with
      | true =>
        rw [if_pos hcm] at hcc
        have hnx := isP_lt T hw.1 hcm
        have hw1 : IntKind.i64.wrap ((wordP l q).2 + 1) = (wordP l q).2 + 1 := wrap_small (by omega) (by have := hw.1.2; omega)
        simp only [go_sem, Nat.reduceEqDiff, Nat.reduceBEq, Int.reduceToNat, Int.reduceLT, Int.reduceLE, Int.reduceEq, Nat.reduceLeDiff, Nat.reduceLT, Nat.reduceMul, Nat.reduceAdd, String.reduceEq, hw1]
        refine hQ .normal _ ?_; clear hQ Q
        refine ⟨m.objs.length + 2, (accM m (acc.length + 1)).rows.length, (g, acc ++ [(wordP l q).1], (wordP l q).2 + 1, false), ?_, ?_, ⟨by dsimp only; omega, by dsimp only; exact hnx.2, ?_, ?_, by dsimp only; rw [hl1]; omega, hcc⟩, by dsimp only; omega⟩
        · dsimp only; rw [hl1]
          rw [slP_app]
          exact DropW.loc m.objs [.cells zD, .cells [_, _, _, _, _]] [.cells zD, .cells [_, _, _, _, _]] [] _ _ _ (Nat.le_refl _) (by simp [IObj.np, npL, IV.np, np_full, npS, npL_app, accK_np2, accM_lt]) (accM_len m _ _) (by simp)
        · dsimp only; simp [upd_apply, j0, j2, j4, IV.np, npK, np_sh]
        · dsimp only; unfold adv at hw; omega
        · dsimp only; unfold adv at hw; omega
      | false =>
        rw [if_neg (by simp [hcm])] at hcc
        simp only [go_sem, Nat.reduceEqDiff, Nat.reduceBEq, Int.reduceToNat, Int.reduceLT, Int.reduceLE, Int.reduceEq, Nat.reduceLeDiff, Nat.reduceLT, Nat.reduceMul, Nat.reduceAdd, String.reduceEq]
        refine hQ (.exit 0) _ ?_; clear hQ Q
        refine ⟨rfl, ?_, ?_, ?_⟩
        · rw [← hcc]; simp [upd_apply, j0, j2, j4]
        · rw [← hcc]; simp
        · rw [← hcc]; dsimp only; rw [hl1]; omega
    · rw [if_neg hrun] at hcc
      have hle : acc.length ≤ 3000000 := by omega
      by_cases hq0 : 0 ≤ q
      · have hbi : b = true ∧ isP l q qRP = true := by simpa [hq0] using hrun
        obtain ⟨rfl, hi⟩ := hbi
        refine TS.of [] fun Q hQ => ?_
        simp only [go_sem, Nat.reduceEqDiff, Nat.reduceBEq, Int.reduceToNat, Int.reduceLT, Int.reduceLE, Int.reduceEq, Nat.reduceLeDiff, Nat.reduceLT, Nat.reduceMul, Nat.reduceAdd, String.reduceEq, i0, i2, i4, i6, i7, hm, hq0]
        refine cal_eq (is_sim _ l q qRP hq2) ?_
        simp only [go_sem, Nat.reduceEqDiff, Nat.reduceBEq, Int.reduceToNat, Int.reduceLT, Int.reduceLE, Int.reduceEq, Nat.reduceLeDiff, Nat.reduceLT, Nat.reduceMul, Nat.reduceAdd, String.reduceEq, hi]
        refine hQ (.exit 0) _ ?_; clear hQ Q
        refine ⟨rfl, ?_, ?_, ?_⟩
        · rw [← hcc]; simp [upd_apply, i0, i2, i4, i6]
        · rw [← hcc]
        · rw [← hcc]; exact hle
      · refine TS.of [] fun Q hQ => ?_
        simp only [go_sem, Nat.reduceEqDiff, Nat.reduceBEq, Int.reduceToNat, Int.reduceLT, Int.reduceLE, Int.reduceEq, Nat.reduceLeDiff, Nat.reduceLT, Nat.reduceMul, Nat.reduceAdd, String.reduceEq, i0, i2, i4, i6, i7, hm, hq0]
        refine hQ (.exit 0) _ ?_; clear hQ Q
        refine ⟨rfl, ?_, ?_, ?_⟩
        · rw [← hcc]; simp [upd_apply, i0, i2, i4, i6]
        · rw [← hcc]
        · rw [← hcc]; exact hle
  rintro e s2 ⟨rfl, ⟨i0, i2, i4, i6⟩, hm2, hpl⟩
  have hd1 := eatP_adv T (t := qRP) hpo
  have hd2 := eatP_adv T (t := qLC) hd1.1
  refine TS.seq (TS.of [] fun Q hQ => ?_)
  simp only [go_sem, Nat.reduceEqDiff, Nat.reduceBEq, Int.reduceToNat, Int.reduceLT, Int.reduceLE, Int.reduceEq, Nat.reduceLeDiff, Nat.reduceLT, Nat.reduceMul, Nat.reduceAdd, String.reduceEq, i0, i2, i4, i6, hm2]
  refine cal_eq (eat_sim _ l par.2 qRP hpo hl) ?_
  simp only [go_sem, Nat.reduceEqDiff, Nat.reduceBEq, Int.reduceToNat, Int.reduceLT, Int.reduceLE, Int.reduceEq, Nat.reduceLeDiff, Nat.reduceLT, Nat.reduceMul, Nat.reduceAdd, String.reduceEq]
  refine cal_eq (eat_sim _ l _ qLC hd1.1 hl) ?_
  simp only [go_sem, Nat.reduceEqDiff, Nat.reduceBEq, Int.reduceToNat, Int.reduceLT, Int.reduceLE, Int.reduceEq, Nat.reduceLeDiff, Nat.reduceLT, Nat.reduceMul, Nat.reduceAdd, String.reduceEq]
  refine hQ .normal _ ?_; clear hQ Q
  -- the needs
  generalize hnee : loopN l (l.length + 2) [] (eatP l (eatP l par.2 qRP) qLC) = nee
  have hno : okA l nee.2 := by rw [← hnee]; exact loopN_adv T _ _ _ hd2.1
  generalize hm1 : accM m par.1.length = m1
  have hpn : par.1.length ≠ 0 → m.rows.length < m1.rows.length := by rw [← hm1]; exact accM_lt
  have hpn0 : m.rows.length ≤ m1.rows.length := by rw [← hm1]; exact accM_ge
  have hm1o : m1.objs = m.objs := by rw [← hm1]; rfl
  have hm1t : m1.rows.take m.rows.length = m.rows := by rw [← hm1]; exact accM_take _ _
  refine TS.seq (TS.mono (Q := fun e s => e = .normal ∧ (s.t 0 = slK l ∧ s.t 2 = .ptr m.objs.length 0 ∧ s.t 4 = .ptr (m.objs.length + 1) 0 ∧ s.t 6 = ii nee.2) ∧ s.m = ⟨m.objs ++ [.cells zD, .cells [ss name.1, slP m.rows.length par.1, slN m1.rows.length nee.1, F0, F0]], (accM m1 nee.1.length).rows⟩ ∧ nee.1.length ≤ 3000000) ?_ ?_)
  · refine TS.block (TS.loop (α := Nat × List Expr × Int) (fun x => [(0, slK l), (2, .ptr m.objs.length 0), (4, .ptr (m.objs.length + 1) 0), (6, ii x.2.2)]) (fun x => ⟨m.objs ++ [.cells zD, .cells [ss name.1, slP m.rows.length par.1, slN m1.rows.length x.2.1, F0, F0]], (accM m1 x.2.1.length).rows⟩) (fun x => x.1 ≤ l.length + 2 ∧ okA l x.2.2 ∧ 1 ≤ x.1 ∧ (0 ≤ x.2.2 → (l.length : Int) - x.2.2 + 1 ≤ x.1) ∧ x.2.1.length + x.1 ≤ l.length + 2 ∧ loopN l x.1 x.2.1 x.2.2 = nee) (fun x => x.1) (l.length + 2, [], eatP l (eatP l par.2 qRP) qLC) (by simp) ⟨by simp [Has, upd_apply, i0, i2, i4], by rw [← hm1]; rfl, ⟨Nat.le_refl _, hd2.1, by dsimp only; omega, by dsimp only; intro _; omega, by simp, hnee⟩⟩ ?_)
    rintro ⟨g, acc, q⟩ st hH hm ⟨hgf, hq, hg1, hge, hal, hcc⟩
    dsimp only at hH hm hgf hq hg1 hge hal hcc
    simp only [Has, List.mem_cons, List.not_mem_nil, or_false, forall_eq_or_imp, forall_eq] at hH; obtain ⟨j0, j2, j4, j6⟩ := hH
    obtain ⟨g, rfl⟩ : ∃ j, g = j + 1 := ⟨g - 1, by omega⟩
    obtain ⟨hq1, hq2⟩ := id hq
    rw [loopN] at hcc
    have hlen : (encEs acc).length = acc.length * 5 := encEs_length acc
    have happ := acc_app m1 99 acc.length 1 (by decide)
    have hbound : (acc.length + 1) * 64 ≤ 140737488355328 := by omega
    cases hi : isP l q qNeed with
    | true =>
      rw [if_pos hi] at hcc
      have hnx := isP_lt T hq hi
      have hw1 : IntKind.i64.wrap (q + 1) = q + 1 := wrap_small (by omega) (by omega)
      have hsub := fun m => expr_sim T hsz m (q + 1) 1 1 hnx.2 (by omega) (by omega) (by omega) (by omega)
      have ha := expr_adv1 T (least := 1) (depth := 1) hnx.2
      generalize expr l (q + 1) 1 1 = X at hcc hsub ha
      have hb := eatP_adv T (t := qSemi) ha.1
      refine TS.of [] fun Q hQ => ?_
      simp only [go_sem, Nat.reduceEqDiff, Nat.reduceBEq, Int.reduceToNat, Int.reduceLT, Int.reduceLE, Int.reduceEq, Nat.reduceLeDiff, Nat.reduceLT, Nat.reduceMul, Nat.reduceAdd, String.reduceEq, j0, j2, j4, j6, hm]
      refine cal_eq (is_sim _ l q qNeed hq2) ?_
      simp only [go_sem, Nat.reduceEqDiff, Nat.reduceBEq, Int.reduceToNat, Int.reduceLT, Int.reduceLE, Int.reduceEq, Nat.reduceLeDiff, Nat.reduceLT, Nat.reduceMul, Nat.reduceAdd, String.reduceEq, hi, j0, j2, j4, j6, hw1]
      refine cal_eq (hsub _) ?_
      simp only [go_sem, Nat.reduceEqDiff, Nat.reduceBEq, Int.reduceToNat, Int.reduceLT, Int.reduceLE, Int.reduceEq, Nat.reduceLeDiff, Nat.reduceLT, Nat.reduceMul, Nat.reduceAdd, String.reduceEq, encE_eq, j0, j2, j4, j6, hlen, happ, hbound]
      refine cal_eq (eat_sim _ l X.2 qSemi ha.1 hl) ?_
      simp only [go_sem, Nat.reduceEqDiff, Nat.reduceBEq, Int.reduceToNat, Int.reduceLT, Int.reduceLE, Int.reduceEq, Nat.reduceLeDiff, Nat.reduceLT, Nat.reduceMul, Nat.reduceAdd, String.reduceEq]
      refine hQ .normal _ ?_; clear hQ Q
      have hl1 : (acc ++ [X.1] : List Expr).length = acc.length + 1 := by simp
      refine ⟨m.objs.length + 2, (accM m1 (acc.length + 1)).rows.length, (g, acc ++ [X.1], eatP l X.2 qSemi), ?_, ?_, ⟨by dsimp only; omega, by dsimp only; exact hb.1, ?_, ?_, by dsimp only; rw [hl1]; omega, hcc⟩, by dsimp only; omega⟩
      · dsimp only; rw [hl1]
        rw [slN_app]
        have hg1 := accM_ge (m := m1) (n := acc.length + 1)
        have hP : (accK m.rows.length 9 par.1.length).np (accM m1 (acc.length + 1)).rows.length = true := accK_np2 (fun h => Nat.lt_of_lt_of_le (hpn h) hg1)
        exact DropW.loc m.objs [.cells zD, .cells [_, _, _, _, _]] [.cells zD, .cells [_, _, _, _, _]] [_] _ _ _ (Nat.le_refl _) (by simp [IObj.np, npL, IV.np, np_full, np_sh, npS, npEs, npL_app, accK_np2, accM_lt, hP]) (accM_len m1 _ _) (by simp)
      · dsimp only; simp [upd_apply, j0, j2, j4, IV.np, npK, np_sh]
      · dsimp only; unfold adv at ha hb; omega
      · dsimp only; unfold adv at ha hb; omega
    | false =>
      rw [if_neg (by simp [hi])] at hcc
      refine TS.of [] fun Q hQ => ?_
      simp only [go_sem, Nat.reduceEqDiff, Nat.reduceBEq, Int.reduceToNat, Int.reduceLT, Int.reduceLE, Int.reduceEq, Nat.reduceLeDiff, Nat.reduceLT, Nat.reduceMul, Nat.reduceAdd, String.reduceEq, j0, j2, j4, j6, hm]
      refine cal_eq (is_sim _ l q qNeed hq2) ?_
      simp only [go_sem, Nat.reduceEqDiff, Nat.reduceBEq, Int.reduceToNat, Int.reduceLT, Int.reduceLE, Int.reduceEq, Nat.reduceLeDiff, Nat.reduceLT, Nat.reduceMul, Nat.reduceAdd, String.reduceEq, hi]
      refine hQ (.exit 2) _ ?_; clear hQ Q
      refine ⟨rfl, ?_, ?_, ?_⟩
      · rw [← hcc]; simp [upd_apply, j0, j2, j4, j6]
      · rw [← hcc]
      · rw [← hcc]; dsimp only; omega
  rintro e s3 ⟨rfl, ⟨j0, j2, j4, j6⟩, hm3, hnl⟩
  clear i0 i2 i4 i6 hm2
  -- the body
  generalize hbod : loopD l (l.length + 2) [] nee.2 = bod
  have hbo : okA l bod.2 := by rw [← hbod]; exact loopD_adv T _ _ _ hno
  generalize hm2e : accM m1 nee.1.length = m2
  have hnn : nee.1.length ≠ 0 → m1.rows.length < m2.rows.length := by rw [← hm2e]; exact accM_lt
  have hnn0 : m1.rows.length ≤ m2.rows.length := by rw [← hm2e]; exact accM_ge
  have hm2t : m2.rows.take m1.rows.length = m1.rows := by rw [← hm2e]; exact accM_take _ _
  rw [hm2e] at hm3
  refine TS.seq (TS.mono (Q := fun e s => e = .normal ∧ (s.t 0 = slK l ∧ s.t 2 = .ptr m.objs.length 0 ∧ s.t 4 = .ptr (m.objs.length + 1) 0 ∧ s.t 6 = ii bod.2) ∧ s.m = ⟨m.objs ++ [.cells zD, .cells [ss name.1, slP m.rows.length par.1, slN m1.rows.length nee.1, slB m2.rows.length bod.1, F0]], (accM m2 bod.1.length).rows⟩ ∧ bod.1.length ≤ 3000000) ?_ ?_)
  · refine TS.block (TS.loop (α := Nat × List Stmt × Int) (fun x => [(0, slK l), (2, .ptr m.objs.length 0), (4, .ptr (m.objs.length + 1) 0), (6, ii x.2.2)]) (fun x => ⟨m.objs ++ [.cells zD, .cells [ss name.1, slP m.rows.length par.1, slN m1.rows.length nee.1, slB m2.rows.length x.2.1, F0]], (accM m2 x.2.1.length).rows⟩) (fun x => x.1 ≤ l.length + 2 ∧ okA l x.2.2 ∧ 1 ≤ x.1 ∧ (0 ≤ x.2.2 → (l.length : Int) - x.2.2 + 1 ≤ x.1) ∧ x.2.1.length + x.1 ≤ l.length + 2 ∧ loopD l x.1 x.2.1 x.2.2 = bod) (fun x => x.1) (l.length + 2, [], nee.2) (by simp) ⟨by simp [Has, j0, j2, j4, j6], by rw [hm3]; rfl, ⟨Nat.le_refl _, hno, by dsimp only; omega, by dsimp only; intro _; omega, by simp, hbod⟩⟩ ?_)
    rintro ⟨g, acc, q⟩ st hH hm ⟨hgf, hq, hg1, hge, hal, hcc⟩
    dsimp only at hH hm hgf hq hg1 hge hal hcc
    simp only [Has, List.mem_cons, List.not_mem_nil, or_false, forall_eq_or_imp, forall_eq] at hH; obtain ⟨k0, k2, k4, k6⟩ := hH
    obtain ⟨g, rfl⟩ : ∃ j, g = j + 1 := ⟨g - 1, by omega⟩
    obtain ⟨hq1, hq2⟩ := id hq
    rw [loopD] at hcc
    have hlen : (encTs acc).length = acc.length * 7 := encTs_length acc
    have happ := acc_app m2 104 acc.length 1 (by decide)
    have hbound : (acc.length + 1) * 112 ≤ 140737488355328 := by omega
    by_cases hrun : (decide (0 ≤ q) && (!isP l q qGive && !isP l q qRC)) = true
    · rw [if_pos hrun] at hcc
      simp only [Bool.and_eq_true, Bool.not_eq_true', decide_eq_true_eq] at hrun
      obtain ⟨hq0, hi, hi2⟩ := hrun
      have hsub := fun m => stmt_sim T hsz m q hq hq0
      have ha := stmt_adv1 T (depth := 1) hq hq0
      generalize stmt l q 1 = X at hcc hsub ha
      refine TS.of [] fun Q hQ => ?_
      simp only [go_sem, Nat.reduceEqDiff, Nat.reduceBEq, Int.reduceToNat, Int.reduceLT, Int.reduceLE, Int.reduceEq, Nat.reduceLeDiff, Nat.reduceLT, Nat.reduceMul, Nat.reduceAdd, String.reduceEq, k0, k2, k4, k6, hm, hq0]
      refine cal_eq (is_sim _ l q qGive hq2) ?_
      simp only [go_sem, Nat.reduceEqDiff, Nat.reduceBEq, Int.reduceToNat, Int.reduceLT, Int.reduceLE, Int.reduceEq, Nat.reduceLeDiff, Nat.reduceLT, Nat.reduceMul, Nat.reduceAdd, String.reduceEq, hi, k0, k2, k4, k6]
      refine cal_eq (is_sim _ l q qRC hq2) ?_
      simp only [go_sem, Nat.reduceEqDiff, Nat.reduceBEq, Int.reduceToNat, Int.reduceLT, Int.reduceLE, Int.reduceEq, Nat.reduceLeDiff, Nat.reduceLT, Nat.reduceMul, Nat.reduceAdd, String.reduceEq, hi2, k0, k2, k4, k6]
      refine cal_eq (hsub _) ?_
      simp only [go_sem, Nat.reduceEqDiff, Nat.reduceBEq, Int.reduceToNat, Int.reduceLT, Int.reduceLE, Int.reduceEq, Nat.reduceLeDiff, Nat.reduceLT, Nat.reduceMul, Nat.reduceAdd, String.reduceEq, encT_eq, k0, k2, k4, k6, hlen, happ, hbound]
      refine hQ .normal _ ?_; clear hQ Q
      have hl1 : (acc ++ [X.1] : List Stmt).length = acc.length + 1 := by simp
      refine ⟨m.objs.length + 2, (accM m2 (acc.length + 1)).rows.length, (g, acc ++ [X.1], X.2), ?_, ?_, ⟨by dsimp only; omega, by dsimp only; exact ha.1, ?_, ?_, by dsimp only; rw [hl1]; omega, hcc⟩, by dsimp only; omega⟩
      · dsimp only; rw [hl1, slB_app]
        have hg1 := accM_ge (m := m2) (n := acc.length + 1)
        have hP : (accK m.rows.length 9 par.1.length).np (accM m2 (acc.length + 1)).rows.length = true := accK_np2 (fun h => Nat.lt_of_lt_of_le (hpn h) (Nat.le_trans hnn0 hg1))
        have hN : (accK m1.rows.length 99 nee.1.length).np (accM m2 (acc.length + 1)).rows.length = true := accK_np2 (fun h => Nat.lt_of_lt_of_le (hnn h) hg1)
        exact DropW.loc m.objs [.cells zD, .cells [_, _, _, _, _]] [.cells zD, .cells [_, _, _, _, _]] [_] _ _ _ (Nat.le_refl _) (by simp [IObj.np, npL, IV.np, np_full, np_sh, npS, npEs, npTs, npL_app, accK_np2, accM_lt, hP, hN]) (accM_len m2 _ _) (by simp)
      · dsimp only; simp [upd_apply, k0, k2, k4, IV.np, npK, np_sh]
      · dsimp only; unfold adv at ha; omega
      · dsimp only; unfold adv at ha; omega
    · rw [if_neg hrun] at hcc
      by_cases hq0 : 0 ≤ q
      · refine TS.of [] fun Q hQ => ?_
        simp only [go_sem, Nat.reduceEqDiff, Nat.reduceBEq, Int.reduceToNat, Int.reduceLT, Int.reduceLE, Int.reduceEq, Nat.reduceLeDiff, Nat.reduceLT, Nat.reduceMul, Nat.reduceAdd, String.reduceEq, k0, k2, k4, k6, hm, hq0]
        refine cal_eq (is_sim _ l q qGive hq2) ?_
        cases hi : isP l q qGive with
        | true =>
          simp only [go_sem, Nat.reduceEqDiff, Nat.reduceBEq, Int.reduceToNat, Int.reduceLT, Int.reduceLE, Int.reduceEq, Nat.reduceLeDiff, Nat.reduceLT, Nat.reduceMul, Nat.reduceAdd, String.reduceEq]
          refine hQ (.exit 4) _ ?_; clear hQ Q
          refine ⟨rfl, ?_, ?_, ?_⟩
          · rw [← hcc]; simp [upd_apply, k0, k2, k4, k6]
          · rw [← hcc]
          · rw [← hcc]; dsimp only; omega
        | false =>
          have hi2 : isP l q qRC = true := by simpa [hq0, hi] using hrun
          simp only [go_sem, Nat.reduceEqDiff, Nat.reduceBEq, Int.reduceToNat, Int.reduceLT, Int.reduceLE, Int.reduceEq, Nat.reduceLeDiff, Nat.reduceLT, Nat.reduceMul, Nat.reduceAdd, String.reduceEq, k0, k2, k4, k6]
          refine cal_eq (is_sim _ l q qRC hq2) ?_
          simp only [go_sem, Nat.reduceEqDiff, Nat.reduceBEq, Int.reduceToNat, Int.reduceLT, Int.reduceLE, Int.reduceEq, Nat.reduceLeDiff, Nat.reduceLT, Nat.reduceMul, Nat.reduceAdd, String.reduceEq, hi2]
          refine hQ (.exit 4) _ ?_; clear hQ Q
          refine ⟨rfl, ?_, ?_, ?_⟩
          · rw [← hcc]; simp [upd_apply, k0, k2, k4, k6]
          · rw [← hcc]
          · rw [← hcc]; dsimp only; omega
      · refine TS.of [] fun Q hQ => ?_
        simp only [go_sem, Nat.reduceEqDiff, Nat.reduceBEq, Int.reduceToNat, Int.reduceLT, Int.reduceLE, Int.reduceEq, Nat.reduceLeDiff, Nat.reduceLT, Nat.reduceMul, Nat.reduceAdd, String.reduceEq, k0, k2, k4, k6, hm, hq0]
        refine hQ (.exit 4) _ ?_; clear hQ Q
        refine ⟨rfl, ?_, ?_, ?_⟩
        · rw [← hcc]; simp [upd_apply, k0, k2, k4, k6]
        · rw [← hcc]
        · rw [← hcc]; dsimp only; omega
  rintro e s4 ⟨rfl, ⟨k0, k2, k4, k6⟩, hm4, hbl⟩
  clear j0 j2 j4 j6 hm3
  generalize hm3e : accM m2 bod.1.length = m3 at hm4
  have hm3t : m3.rows.take m2.rows.length = m2.rows := by rw [← hm3e]; exact accM_take _ _
  have hge3 : m2.rows.length ≤ m3.rows.length := by rw [← hm3e]; exact accM_ge
  have htake : ∀ r, (m3.rows ++ r).take m.rows.length = m.rows := by
    intro r
    rw [List.take_append_of_le_length (by omega)]
    have e : m.rows = m3.rows.take m.rows.length := by
      conv => lhs; rw [← hm1t, ← hm2t, ← hm3t, List.take_take, List.take_take]
      congr 1; omega
    exact e.symm
  have hgo : defP l = defP l := rfl
  conv at hgo => rhs; unfold defP
  dsimp only at hgo
  rw [hname, hpar, hnee, hbod] at hgo
  refine TS.of [] fun Q hQ => ?_
  simp only [go_sem, Nat.reduceEqDiff, Nat.reduceBEq, Int.reduceToNat, Int.reduceLT, Int.reduceLE, Int.reduceEq, Nat.reduceLeDiff, Nat.reduceLT, Nat.reduceMul, Nat.reduceAdd, String.reduceEq, k0, k2, k4, k6, hm4]
  refine cal_eq (is_sim _ l bod.2 qGive hbo.2) ?_
  cases hi : isP l bod.2 qGive with
  | true =>
    rw [if_pos hi] at hgo
    have hnx := isP_lt T hbo hi
    have hw1 : IntKind.i64.wrap (bod.2 + 1) = bod.2 + 1 := wrap_small (by omega) (by have := hbo.2; omega)
    have hsub := fun m => expr_sim T hsz m (bod.2 + 1) 1 1 hnx.2 (by omega) (by omega) (by omega) (by omega)
    have ha := expr_adv1 T (least := 1) (depth := 1) hnx.2
    generalize expr l (bod.2 + 1) 1 1 = X at hgo hsub ha
    have hb := eatP_adv T (t := qSemi) ha.1
    simp only [go_sem, Nat.reduceEqDiff, Nat.reduceBEq, Int.reduceToNat, Int.reduceLT, Int.reduceLE, Int.reduceEq, Nat.reduceLeDiff, Nat.reduceLT, Nat.reduceMul, Nat.reduceAdd, String.reduceEq, k0, k2, k4, k6, hw1]
    refine cal_eq (hsub _) ?_
    simp only [go_sem, Nat.reduceEqDiff, Nat.reduceBEq, Int.reduceToNat, Int.reduceLT, Int.reduceLE, Int.reduceEq, Nat.reduceLeDiff, Nat.reduceLT, Nat.reduceMul, Nat.reduceAdd, String.reduceEq, encE_eq, k0, k2, k4, k6, app]
    refine cal_eq (eat_sim _ l X.2 qSemi ha.1 hl) ?_
    simp only [go_sem, Nat.reduceEqDiff, Nat.reduceBEq, Int.reduceToNat, Int.reduceLT, Int.reduceLE, Int.reduceEq, Nat.reduceLeDiff, Nat.reduceLT, Nat.reduceMul, Nat.reduceAdd, String.reduceEq, k0, k2, k4, k6]
    refine drn_of ⟨[], [], []⟩ [0, 0, 0, 6, 15, 31] (by kernel_rfl) ?_
    simp only [go_sem, Nat.reduceEqDiff, Nat.reduceBEq, Int.reduceToNat, Int.reduceLT, Int.reduceLE, Int.reduceEq, Nat.reduceLeDiff, Nat.reduceLT, Nat.reduceMul, Nat.reduceAdd, String.reduceEq, k0, k2, k4, k6]
    refine cald_eq (eat_sim _ l _ qRC hb.1 hl) ?_
    simp only [go_sem, Nat.reduceEqDiff, Nat.reduceBEq, Int.reduceToNat, Int.reduceLT, Int.reduceLE, Int.reduceEq, Nat.reduceLeDiff, Nat.reduceLT, Nat.reduceMul, Nat.reduceAdd, String.reduceEq, k0, k2, k4, k6]
    refine hQ .ret _ ?_; clear hQ Q
    refine post_ret m.objs.length m.rows.length (.tup [.agg (encD ⟨name.1, par.1, nee.1, bod.1, [X.1]⟩), ii (eatP l (eatP l X.2 qSemi) qRC)]) ?_ ?_ ?_ ⟨by rw [hgo], rfl⟩
    · simp only [go_sem, Nat.reduceEqDiff, Nat.reduceBEq, Int.reduceToNat, Int.reduceLT, Int.reduceLE, Int.reduceEq, Nat.reduceLeDiff, Nat.reduceLT, Nat.reduceMul, Nat.reduceAdd, String.reduceEq, k0, k2, k4, k6, encEs, encE_eq, encD, slS, slT, slE, List.append_nil] <;> rfl
    · simp [IV.np, npL, np_sh, npS, npEs, npTs]
    · refine ⟨?_, ?_, Nat.le_refl _, Nat.le_refl _, fun o x hx hlo => .inl ?_⟩
      · simp
      · dsimp only; rw [htake]
      · dsimp only at hx; rw [List.getElem?_append_left hlo] at hx; exact hx
  | false =>
    rw [if_neg (by simp [hi])] at hgo
    simp only [go_sem, Nat.reduceEqDiff, Nat.reduceBEq, Int.reduceToNat, Int.reduceLT, Int.reduceLE, Int.reduceEq, Nat.reduceLeDiff, Nat.reduceLT, Nat.reduceMul, Nat.reduceAdd, String.reduceEq, k0, k2, k4, k6]
    refine drn_of ⟨[], [], []⟩ [0, 0, 0, 6, 15, 31] (by kernel_rfl) ?_
    simp only [go_sem, Nat.reduceEqDiff, Nat.reduceBEq, Int.reduceToNat, Int.reduceLT, Int.reduceLE, Int.reduceEq, Nat.reduceLeDiff, Nat.reduceLT, Nat.reduceMul, Nat.reduceAdd, String.reduceEq, k0, k2, k4, k6]
    refine cald_eq (eat_sim _ l _ qRC hbo hl) ?_
    simp only [go_sem, Nat.reduceEqDiff, Nat.reduceBEq, Int.reduceToNat, Int.reduceLT, Int.reduceLE, Int.reduceEq, Nat.reduceLeDiff, Nat.reduceLT, Nat.reduceMul, Nat.reduceAdd, String.reduceEq, k0, k2, k4, k6]
    refine hQ .ret _ ?_; clear hQ Q
    refine post_ret m.objs.length m.rows.length (.tup [.agg (encD ⟨name.1, par.1, nee.1, bod.1, []⟩), ii (eatP l bod.2 qRC)]) ?_ ?_ ?_ ⟨by rw [hgo], rfl⟩
    · simp only [go_sem, Nat.reduceEqDiff, Nat.reduceBEq, Int.reduceToNat, Int.reduceLT, Int.reduceLE, Int.reduceEq, Nat.reduceLeDiff, Nat.reduceLT, Nat.reduceMul, Nat.reduceAdd, String.reduceEq, k0, k2, k4, k6, encEs, encE_eq, encD, slS, slT, slE, List.append_nil] <;> rfl
    · simp [IV.np, npL, np_sh, npS, npEs, npTs]
    · refine ⟨?_, ?_, Nat.le_refl _, Nat.le_refl _, fun o x hx hlo => .inl ?_⟩
      · simp
      · dsimp only; have := htake []; rw [List.append_nil] at this; rw [this]
      · dsimp only at hx; rw [List.getElem?_append_left hlo] at hx; exact hx
theorem defP_ok {l : List Tok} (T : Toks l) : okA l (defP l).2 := by
  have ho0 : okA l 0 := ⟨by omega, by have := T.pos; omega⟩
  have ha3 := eatP_adv T (t := qLP) (wordP_adv T (eatP_adv T (t := qOp) ho0).1).1
  have hpo := loopP_adv T (l.length + 2) [] _ true ha3.1
  have hd2 := eatP_adv T (t := qLC) (eatP_adv T (t := qRP) hpo).1
  have hno := loopN_adv T (l.length + 2) [] _ hd2.1
  have hbo := loopD_adv T (l.length + 2) [] _ hno
  unfold defP
  dsimp only
  split
  · rename_i hi
    have ha := expr_adv1 T (least := 1) (depth := 1) (isP_lt T hbo hi).2
    exact (eatP_adv T (eatP_adv T ha.1).1).1
  · exact (eatP_adv T hbo).1
end Go.Proofs.Ytphjldhdnmoolaa.A
/- The walks of some functions over the abstract machine. -/
namespace Go.Proofs.Ytphjldhdnmoolaa.A
open Go
structure TokP (s : Bytes) (l : List Tok) : Prop where
  kind : ∀ t ∈ l, t.k ≠ 4
  size : ∀ t ∈ l, t.s.size ≤ s.size
theorem kindT_ne4 (t : Bytes) (b : Bool) : kindT t b ≠ 4 := by
  unfold kindT; split
  · decide
  · split
    · decide
    · split <;> decide
theorem toksF_ok (s : Bytes) : ∀ (f p : Nat) (acc : List Tok), p ≤ s.size → s.size + 1 ≤ f + p → acc.length ≤ p → TokP s acc → (toksF s f p acc).2.1 = 0 → ∃ l, (toksF s f p acc).1 = l ++ [⟨4, ByteArray.empty, s.size⟩] ∧ l.length ≤ s.size ∧ TokP s l
  | 0, p, acc, hp, hf, _, _, _ => by omega
  | f + 1, p, acc, hp, hf, hl, hP, hc => by
    unfold toksF at hc ⊢
    cases hb : (L s)[p]? with
    | none => rw [hb] at hc; exact ⟨acc, rfl, by omega, hP⟩
    | some b =>
      have hlt : p < s.size := by rw [← L_len]; exact (List.getElem?_eq_some_iff.1 hb).1
      rw [hb] at hc
      dsimp only at hc ⊢
      by_cases h1 : b.toNat = 32 ∨ b.toNat = 9 ∨ b.toNat = 10
      · rw [if_pos h1] at hc ⊢
        exact toksF_ok s f (p + 1) acc (by omega) (by omega) (by omega) hP hc
      · rw [if_neg h1] at hc ⊢
        by_cases h2 : b.toNat = 35
        · rw [if_pos h2] at hc ⊢
          have h3 := nlp_le (s := s) (k := p) hp
          have h4 : p < nlp s p := by
            rw [nlp_step hb, if_neg (by omega)]
            have := (nlp_le (s := s) (k := p + 1) (by omega)).1
            omega
          exact toksF_ok s f _ acc h3.2 (by omega) (by omega) hP hc
        · rw [if_neg h2] at hc ⊢
          have hle := lastE_le (s := s) (a := p) (e := s.size) hp
          generalize lastE s p s.size = e at hc hle ⊢
          by_cases h3 : kindT (s.extract p e) (decide (p < e)) = 0
          · rw [if_pos h3] at hc; exact absurd hc (by simp)
          · rw [if_neg h3] at hc ⊢
            have hpe := kind_ne h3 hle.2
            refine toksF_ok s f e _ hle.2 (by omega) (by simp; omega) ⟨?_, ?_⟩ hc
            · intro t ht
              rcases List.mem_append.1 ht with h | h
              · exact hP.kind t h
              · simp at h; subst h; exact kindT_ne4 _ _
            · intro t ht
              rcases List.mem_append.1 ht with h | h
              · exact hP.size t h
              · simp at h; subst h; dsimp only; rw [ext_size]; omega
theorem tokens_ok {s : Bytes} (h : (tokens s).2.1 = 0) : ∃ l, (tokens s).1 = l ++ [⟨4, ByteArray.empty, s.size⟩] ∧ l.length ≤ 480 ∧ s.size ≤ 480 ∧ TokP s l := by
  unfold tokens at h ⊢
  by_cases hb : 480 < s.size
  · rw [if_pos hb] at h; exact absurd h (by decide)
  · rw [if_neg hb] at h ⊢
    obtain ⟨l, h1, h2, h3⟩ := toksF_ok s (s.size + 1) 0 [] (by omega) (by omega) (by simp) ⟨by simp, by simp⟩ h
    exact ⟨l, h1, by omega, by omega, h3⟩
theorem Toks.of {l : List Tok} {t : Tok} (ht : t.k = 4) (hl : l.length ≤ 480) (hk : ∀ t ∈ l, t.k ≠ 4) : Toks (l ++ [t]) := by
  refine ⟨by simp, by simp; omega, fun p h0 h1 hk4 => ?_⟩
  obtain ⟨n, rfl⟩ := nat_of h0
  simp only [List.length_append, List.length_cons, List.length_nil] at h1 ⊢
  by_cases e : n = l.length
  · exfalso; apply hk4; subst e; unfold tk; simp [ht]
  · omega
theorem tk_size {s : Bytes} {l : List Tok} {t : Tok} (hP : TokP s l) (ht : t.s.size ≤ s.size) (hs : s.size < 900000) (p : Int) : (tk (l ++ [t]) p).s.size < 900000 := by
  unfold tk
  rw [List.getD_eq_getElem?_getD]
  cases h : (l ++ [t])[p.toNat]? with
  | none => simp
  | some x =>
    simp only [Option.getD_some]
    rcases List.mem_append.1 (List.mem_of_getElem? h) with h | h
    · have := hP.size x h; omega
    · simp at h; subst h; omega
set_option maxRecDepth 100000 in
set_option maxHeartbeats 4000000 in
theorem parse_sim (m : Mem) (s : Bytes) (hs : s.size < 900000) : Sim 22 [ss s] m (fun r m' => r = .tup [.agg (encD (parse s).1), ii (parse s).2.1, ii (parse s).2.2] ∧ m' = m) := by
  refine Sim.ofS 48 [.cell 2 27, .tmp 3, .tmp 4] Try.func22 rfl rfl rfl (by simp) fun wr => ?_
  simp only [go_sem, Nat.reduceEqDiff, Nat.reduceBEq, Int.reduceToNat, Int.reduceLT, Int.reduceLE, Int.reduceEq, Nat.reduceLeDiff, Nat.reduceLT, Nat.reduceMul, Nat.reduceAdd, String.reduceEq]
  have hgo : parse s = parse s := rfl
  conv at hgo => rhs; unfold parse
  dsimp only at hgo
  refine TS.of [] fun Q hQ => ?_
  simp only [go_sem, Nat.reduceEqDiff, Nat.reduceBEq, Int.reduceToNat, Int.reduceLT, Int.reduceLE, Int.reduceEq, Nat.reduceLeDiff, Nat.reduceLT, Nat.reduceMul, Nat.reduceAdd, String.reduceEq]
  refine cal_eq (tokens_sim _ s hs) ?_
  by_cases hc : (tokens s).2.1 = 0
  · rw [if_neg (by simp [hc])] at hgo
    obtain ⟨l0, h1, h2, h2', h3⟩ := tokens_ok hc
    have T : Toks (tokens s).1 := by rw [h1]; exact Toks.of rfl h2 h3.kind
    have hsz : ∀ p, (tk (tokens s).1 p).s.size < 900000 := by rw [h1]; exact tk_size h3 (by simp) hs
    have hd := defP_sim T hsz
    have hok := defP_ok T
    generalize (tokens s).1 = l at hgo T hsz hd hok ⊢
    generalize defP l = D at hgo hd hok ⊢
    have hl := T.lt
    obtain ⟨hk1, hk2⟩ := id hok
    simp only [go_sem, Nat.reduceEqDiff, Nat.reduceBEq, Int.reduceToNat, Int.reduceLT, Int.reduceLE, Int.reduceEq, Nat.reduceLeDiff, Nat.reduceLT, Nat.reduceMul, Nat.reduceAdd, String.reduceEq, hc]
    refine cal_eq (hd _) ?_
    simp only [go_sem, Nat.reduceEqDiff, Nat.reduceBEq, Int.reduceToNat, Int.reduceLT, Int.reduceLE, Int.reduceEq, Nat.reduceLeDiff, Nat.reduceLT, Nat.reduceMul, Nat.reduceAdd, String.reduceEq, encD]
    by_cases h0 : 0 ≤ D.2
    · obtain ⟨n, hn⟩ := nat_of h0
      rw [hn] at hk1 hk2 hgo h0 ⊢
      have hlt : n < l.length := by omega
      have hat := encK_at (tk_at hlt)
      have hl3 := encK_lt hlt
      have hnn : ¬ (n : Int) < 0 := by omega
      by_cases h4 : (tk l n).k = 4
      · have hf : fixP l n = n := by simp [fixP, h4]
        rw [hf, if_neg hnn] at hgo
        simp only [go_sem, Nat.reduceEqDiff, Nat.reduceBEq, Int.reduceToNat, Int.reduceLT, Int.reduceLE, Int.reduceEq, Nat.reduceLeDiff, Nat.reduceLT, Nat.reduceMul, Nat.reduceAdd, String.reduceEq, h0, hlt, hat, hl3, h4, hnn]
        refine hQ .ret _ ?_; clear hQ Q; refine post_ret _ _ (.tup [.agg (encD D.1), ii 0, ii 0]) ?_ ?_ (DropW.tail0 _ rfl) ⟨?_, rfl⟩
        · simp only [go_sem, Nat.reduceEqDiff, Nat.reduceBEq, Int.reduceToNat, Int.reduceLT, Int.reduceLE, Int.reduceEq, Nat.reduceLeDiff, Nat.reduceLT, Nat.reduceMul, Nat.reduceAdd, String.reduceEq, encD] <;> rfl
        · simp [IV.np, npL, npE, npS, npEs, npTs, np_sh]
        · rw [hgo]
      · have hf : fixP l n = bad n := by simp [fixP, h4]
        have hbn : bad (n : Int) < 0 := by unfold bad; omega
        have hbb : -1 - bad (n : Int) = n := by unfold bad; omega
        have hwb : IntKind.i64.wrap (-1 - bad (n : Int)) = n := by rw [hbb]; exact wrap_small (by omega) (by omega)
        rw [hf, if_pos hbn, hbb] at hgo
        simp only [go_sem, Nat.reduceEqDiff, Nat.reduceBEq, Int.reduceToNat, Int.reduceLT, Int.reduceLE, Int.reduceEq, Nat.reduceLeDiff, Nat.reduceLT, Nat.reduceMul, Nat.reduceAdd, String.reduceEq, h0, hlt, hat, hl3, h4, hnn]
        refine cal_eq (bad_sim _ n (by omega)) ?_
        simp only [go_sem, Nat.reduceEqDiff, Nat.reduceBEq, Int.reduceToNat, Int.reduceLT, Int.reduceLE, Int.reduceEq, Nat.reduceLeDiff, Nat.reduceLT, Nat.reduceMul, Nat.reduceAdd, String.reduceEq, hbn]
        refine drn_of ⟨[46], [], []⟩ [0, 0, 0, 4, 14, 30, 62, 1, 129, 511] (by kernel_rfl) ?_
        simp only [go_sem, Nat.reduceEqDiff, Nat.reduceBEq, Int.reduceToNat, Int.reduceLT, Int.reduceLE, Int.reduceEq, Nat.reduceLeDiff, Nat.reduceLT, Nat.reduceMul, Nat.reduceAdd, String.reduceEq, hbn, hwb, h0, hlt, hat, hl3]
        refine hQ .ret _ ?_; clear hQ Q; refine post_ret _ _ (.tup [.agg (encD D0), ii 8, ii (tk l n).p]) ?_ ?_ (DropW.tail0 _ rfl) ⟨?_, rfl⟩
        · simp only [go_sem, Nat.reduceEqDiff, Nat.reduceBEq, Int.reduceToNat, Int.reduceLT, Int.reduceLE, Int.reduceEq, Nat.reduceLeDiff, Nat.reduceLT, Nat.reduceMul, Nat.reduceAdd, String.reduceEq, encD] <;> rfl
        · simp [IV.np, npL, npE, npS, npEs, npTs, np_sh]
        · rw [hgo]
    · have hneg : D.2 < 0 := by omega
      have hf : fixP l D.2 = D.2 := by simp [fixP, h0]
      rw [hf, if_pos hneg] at hgo
      obtain ⟨n, hn⟩ := nat_of (p := -1 - D.2) (by omega)
      have hlt : n < l.length := by omega
      have hat := encK_at (tk_at hlt)
      have hl3 := encK_lt hlt
      have hwb : IntKind.i64.wrap (-1 - D.2) = n := by rw [hn]; exact wrap_small (by omega) (by omega)
      have h0' : (0 : Int) ≤ n := by omega
      rw [hn] at hgo
      simp only [go_sem, Nat.reduceEqDiff, Nat.reduceBEq, Int.reduceToNat, Int.reduceLT, Int.reduceLE, Int.reduceEq, Nat.reduceLeDiff, Nat.reduceLT, Nat.reduceMul, Nat.reduceAdd, String.reduceEq, h0, hneg]
      refine drn_of ⟨[46], [], []⟩ [0, 0, 0, 4, 14, 30, 62, 1, 129, 511] (by kernel_rfl) ?_
      simp only [go_sem, Nat.reduceEqDiff, Nat.reduceBEq, Int.reduceToNat, Int.reduceLT, Int.reduceLE, Int.reduceEq, Nat.reduceLeDiff, Nat.reduceLT, Nat.reduceMul, Nat.reduceAdd, String.reduceEq, hneg, hwb, h0', hlt, hat, hl3]
      refine hQ .ret _ ?_; clear hQ Q; refine post_ret _ _ (.tup [.agg (encD D0), ii 8, ii (tk l n).p]) ?_ ?_ (DropW.tail0 _ rfl) ⟨?_, rfl⟩
      · simp only [go_sem, Nat.reduceEqDiff, Nat.reduceBEq, Int.reduceToNat, Int.reduceLT, Int.reduceLE, Int.reduceEq, Nat.reduceLeDiff, Nat.reduceLT, Nat.reduceMul, Nat.reduceAdd, String.reduceEq, encD] <;> rfl
      · simp [IV.np, npL, npE, npS, npEs, npTs, np_sh]
      · rw [hgo]
  · rw [if_pos (by simp [hc])] at hgo
    simp only [go_sem, Nat.reduceEqDiff, Nat.reduceBEq, Int.reduceToNat, Int.reduceLT, Int.reduceLE, Int.reduceEq, Nat.reduceLeDiff, Nat.reduceLT, Nat.reduceMul, Nat.reduceAdd, String.reduceEq, hc]
    refine hQ .ret _ ?_; clear hQ Q; refine post_ret _ _ (.tup [.agg (encD D0), ii (tokens s).2.1, ii (tokens s).2.2]) ?_ ?_ (DropW.tail0 _ rfl) ⟨?_, rfl⟩
    · simp only [go_sem, Nat.reduceEqDiff, Nat.reduceBEq, Int.reduceToNat, Int.reduceLT, Int.reduceLE, Int.reduceEq, Nat.reduceLeDiff, Nat.reduceLT, Nat.reduceMul, Nat.reduceAdd, String.reduceEq, encD] <;> rfl
    · simp [IV.np, npL, npE, npS, npEs, npTs, np_sh]
    · rw [hgo]
end Go.Proofs.Ytphjldhdnmoolaa.A
/- The walks of some functions over the abstract machine. -/
namespace Go.Proofs.Ytphjldhdnmoolaa.A
open Go
/-! maps from names to numbers -/
abbrev Ent := Bytes × Int × Nat
def encN (e : Ent) : MapEntry := ⟨.string e.1, .int .i64 e.2.1, e.2.2⟩
def encM (l : List Ent) : Array MapEntry := (l.map encN).toArray
def fnd (s : Bytes) : List Ent → Nat → Option (Nat × Int)
  | [], _ => none
  | e :: l, i => if s = e.1 then some (i, e.2.1) else fnd s l (i + 1)
def fndV (s : Bytes) (l : List Ent) : Option (Nat × Value) := (fnd s l 0).map fun p => (p.1, .int .i64 p.2)
def getM (s : Bytes) : List Ent → Option Int
  | [] => none
  | e :: l => if s = e.1 then some e.2.1 else getM s l
def repl (s : Bytes) (v : Int) : List Ent → List Ent
  | [] => []
  | e :: l => if s = e.1 then (s, v, e.2.2) :: l else e :: repl s v l
def putM (s : Bytes) (v : Int) (l : List Ent) (c : Nat) : List Ent × Nat := match getM s l with
  | some _ => (repl s v l, c)
  | none => (l ++ [(s, v, c)], c + 1)
def delM (s : Bytes) : List Ent → List Ent
  | [] => []
  | e :: l => if s = e.1 then l else e :: delM s l
theorem fnd_get (s : Bytes) : ∀ (l : List Ent) (i : Nat), (fnd s l i).map (·.2) = getM s l
  | [], i => rfl
  | e :: l, i => by
    unfold fnd getM
    split
    · rfl
    · exact fnd_get s l (i + 1)
theorem fnd_shift (s : Bytes) : ∀ (l : List Ent) (i : Nat), fnd s l (i + 1) = (fnd s l i).map fun p => (p.1 + 1, p.2)
  | [], i => rfl
  | e :: l, i => by
    unfold fnd
    split
    · rfl
    · exact fnd_shift s l (i + 1)
theorem bq (a b : Bytes) : (a == b) = decide (a = b) := by
  rw [Bool.eq_iff_iff]; simp only [decide_eq_true_eq]
  cases a; cases b
  constructor
  · intro h; exact congrArg ByteArray.mk (eq_of_beq (α := Array UInt8) h)
  · intro h; cases h; exact beq_self_eq_true (α := Array UInt8) _
theorem findNow_enc (s : Bytes) : ∀ (l : List Ent) (i : Nat), Instr.findNow .string (.string s) (l.map encN) i = some ((fnd s l i).map fun p => (p.1, .int .i64 p.2))
  | [], i => rfl
  | e :: l, i => by
    unfold fnd
    simp only [List.map_cons, Instr.findNow]
    by_cases h : s = e.1
    · subst h
      rw [show Instr.sameNow .string (.string e.1) (encN e).key = some true by show some (e.1 == e.1) = some true; rw [bq]; simp]
      simp [encN]
    · rw [show Instr.sameNow .string (.string s) (encN e).key = some false by show some (s == e.1) = some false; rw [bq]; simp [h]]
      rw [if_neg h]
      exact findNow_enc s l (i + 1)
theorem mlook_enc (s : Bytes) (l : List Ent) : mlook (encM l) s = some (fndV s l) := findNow_enc s l 0
theorem encM_size (l : List Ent) : (encM l).size = l.length := by simp [encM]
theorem mval_enc (s : Bytes) (l : List Ent) : mval (fndV s l) = .int .i64 ((getM s l).getD 0) := by
  unfold fndV
  rw [← fnd_get s l 0]
  cases fnd s l 0 <;> rfl
theorem some_enc (s : Bytes) (l : List Ent) : (fndV s l).isSome = (getM s l).isSome := by
  unfold fndV
  rw [← fnd_get s l 0]
  cases fnd s l 0 <;> rfl
theorem modify_enc (s : Bytes) (v : Int) : ∀ (l : List Ent) (i : Nat) (x : Int), fnd s l 0 = some (i, x) → (l.map encN).modify i (fun e => { e with key := .string s, val := .int .i64 v }) = (repl s v l).map encN
  | [], i, x, h => by cases h
  | e :: l, i, x, h => by
    unfold fnd at h
    unfold repl
    split at h
    · rename_i hs; cases h; rw [if_pos hs]; rfl
    · rename_i hs
      rw [if_neg hs]
      rw [fnd_shift] at h
      cases hf : fnd s l 0 with
      | none => rw [hf] at h; cases h
      | some p =>
        obtain ⟨j, y⟩ := p
        rw [hf] at h
        cases h
        simp only [List.map_cons, List.modify_succ_cons]
        rw [modify_enc s v l j _ hf]
theorem erase_enc (s : Bytes) : ∀ (l : List Ent) (i : Nat) (x : Int), fnd s l 0 = some (i, x) → (l.map encN).eraseIdx i = (delM s l).map encN
  | [], i, x, h => by cases h
  | e :: l, i, x, h => by
    unfold fnd at h
    unfold delM
    split at h
    · rename_i hs; cases h; rw [if_pos hs]; rfl
    · rename_i hs
      rw [if_neg hs]
      rw [fnd_shift] at h
      cases hf : fnd s l 0 with
      | none => rw [hf] at h; cases h
      | some p =>
        obtain ⟨j, y⟩ := p
        rw [hf] at h
        cases h
        simp only [List.map_cons, List.eraseIdx_cons_succ]
        rw [erase_enc s l j _ hf]
theorem fnd_none {s : Bytes} {l : List Ent} : getM s l = none ↔ fnd s l 0 = none := by
  rw [← fnd_get s l 0]; cases fnd s l 0 <;> simp
theorem mupd_enc (s : Bytes) (v : Int) (l : List Ent) (c : Nat) : mupd (encM l) c s (.int .i64 v) (fndV s l) = (encM (putM s v l c).1, (putM s v l c).2) := by
  unfold fndV putM
  cases hf : fnd s l 0 with
  | none => rw [fnd_none.2 hf]; simp [mupd, encM, encN]
  | some p =>
    obtain ⟨i, x⟩ := p
    have : ∃ y, getM s l = some y := ⟨x, by rw [← fnd_get s l 0, hf]; rfl⟩
    obtain ⟨y, hy⟩ := this
    rw [hy]
    simp only [Option.map_some, mupd, encM]
    rw [← modify_enc s v l i x hf]
    simp
theorem delM_none {s : Bytes} : ∀ {l : List Ent}, getM s l = none → delM s l = l
  | [], h => rfl
  | e :: l, h => by
    unfold getM at h; unfold delM
    split at h
    · cases h
    · rename_i hs; rw [if_neg hs, delM_none h]
theorem mdel_enc (s : Bytes) (l : List Ent) : mdel (encM l) (fndV s l) = encM (delM s l) := by
  unfold fndV
  cases hf : fnd s l 0 with
  | none => rw [delM_none (fnd_none.2 hf)]; rfl
  | some p =>
    obtain ⟨i, x⟩ := p
    simp only [Option.map_some, mdel, encM]
    rw [← erase_enc s l i x hf]
    simp
theorem ment_enc {s : Bytes} {l : List Ent} {c : Nat} (h : getM s l = none) : ment (encM l) c s (fndV s l) = (encM (l ++ [(s, 0, c)]), c + 1) := by
  unfold fndV
  rw [fnd_none.1 h]
  simp [ment, encM, encN]
theorem born_enc {s : Bytes} {l : List Ent} {c : Nat} (h : getM s l = none) : bornAt (encM l) c (fndV s l) = c := by
  unfold fndV
  rw [fnd_none.1 h]
  rfl
theorem estore_enc {s : Bytes} {l : List Ent} {c : Nat} {v : Int} (h : ∀ e ∈ l, e.2.2 < c) : (encM (l ++ [(s, 0, c)])).findIdx? (fun e => decide ((e.born : Int) = c)) = some l.length ∧ ((encM (l ++ [(s, 0, c)])).modify l.length fun e => { e with val := .int .i64 v }) = encM (l ++ [(s, v, c)]) := by
  constructor
  · simp only [encM, List.findIdx?_toArray, List.map_append, List.map_cons, List.map_nil]
    rw [List.findIdx?_append]
    have : (l.map encN).findIdx? (fun e => decide ((e.born : Int) = c)) = none := by
      rw [List.findIdx?_eq_none_iff]
      intro e he
      obtain ⟨x, hx, rfl⟩ := List.mem_map.1 he
      have := h x hx
      show decide (((x.2.2 : Nat) : Int) = (c : Int)) = false
      exact decide_eq_false (by omega)
    rw [this]
    simp [encN]
  · simp only [encM, List.map_append, List.map_cons, List.map_nil]
    have : ∀ (a : List MapEntry) (x : MapEntry) (f : MapEntry → MapEntry), (a ++ [x]).modify a.length f = a ++ [f x] := by
      intro a x f
      induction a with
      | nil => rfl
      | cons y a ih => simp [ih]
    have h2 := this (l.map encN) (encN (s, 0, c)) (fun e => { e with val := .int .i64 v })
    rw [List.length_map] at h2
    simp only [List.modify_toArray]
    rw [h2]
    rfl
end Go.Proofs.Ytphjldhdnmoolaa.A
/- The walks of some functions over the abstract machine. -/
namespace Go.Proofs.Ytphjldhdnmoolaa.A
open Go
structure CS where
  kn : List Ent
  kc : Nat
  us : List Ent
  uc : Nat
  ft : Option (Int × Int)
  rd : Bool
  md : Int
  tn : Bool
def ftI : Option (Int × Int) → IV
  | none => .v (.pointer none)
  | some p => .ref [ii p.1, ii p.2]
abbrev cellsC (o : Nat) (cs : CS) : List IV := [.map o, .map (o + 1), ftI cs.ft, bb cs.rd, ii cs.md, ii 0, ii 0, bb cs.tn]
abbrev CM (B : List IObj) (cs : CS) (R : List IObj) : List IObj := B ++ (.map (encM cs.kn) cs.kc :: .map (encM cs.us) cs.uc :: .cells (cellsC B.length cs) :: R)
def SimC (f : FuncId) (args : List IV) (cs : CS) (r : IV) (cs' : CS) : Prop := ∀ (B R : List IObj) (rw_ : List Nat), Sim f (.ptr (B.length + 2) 0 :: args) ⟨CM B cs R, rw_⟩ (fun x m' => x = r ∧ m' = ⟨CM B cs' R, rw_⟩)
def CS.fail (code at_ : Int) (cs : CS) : CS := if cs.ft.isNone then { cs with ft := some (code, at_) } else cs
theorem ftI_none : ftI none = .v (.pointer none) := rfl
theorem ftI_some {p : Int × Int} : ftI (some p) = .ref [ii p.1, ii p.2] := rfl
theorem np_ft {no nr : Nat} : ∀ f, (ftI f).np no nr = true
  | none => rfl
  | some p => by simp [ftI, IV.np, npL]
theorem DropW.ck (B : List IObj) (cs cs' : CS) (R X : List IObj) (rw_ rs : List Nat) : DropW ⟨CM B cs R, rw_⟩ (B.length + (R.length + 3)) rw_.length ⟨CM B cs' (R ++ X), rw_ ++ rs⟩ ⟨CM B cs' R, rw_⟩ := by
  refine ⟨?_, by simp, by simp [CM], Nat.le_refl _, fun o x hx hl => ?_⟩
  · have : (CM B cs' (R ++ X)) = CM B cs' R ++ X := by simp [CM]
    simp only [this]
    rw [List.take_left' (by simp [CM])]
  · simp only [CM] at hx ⊢
    by_cases h1 : o < B.length
    · left; rw [List.getElem?_append_left h1] at hx ⊢; exact hx
    · rw [List.getElem?_append_right (by omega)] at hx ⊢
      generalize hk : o - B.length = k at hx ⊢
      match k, hx with
      | 0, hx => right; simp at hx; subst hx; rfl
      | 1, hx => right; simp at hx; subst hx; rfl
      | 2, hx =>
        right; simp at hx; subst hx
        simp [IObj.np, npL, IV.np, np_ft] <;> omega
      | k + 3, hx =>
        left
        simp only [List.getElem?_cons_succ] at hx ⊢
        rw [List.getElem?_append_left (by omega)] at hx
        exact hx
theorem DropW.ck0 (B : List IObj) (cs cs' : CS) (R : List IObj) (rw_ : List Nat) : DropW ⟨CM B cs R, rw_⟩ (B.length + (R.length + 3)) rw_.length ⟨CM B cs' R, rw_⟩ ⟨CM B cs' R, rw_⟩ := by
  have := DropW.ck B cs cs' R [] rw_ []
  simpa using this
theorem DropW.ckX (B : List IObj) (cs cs' : CS) (R : List IObj) (rw_ : List Nat) (X : List IObj) : DropW ⟨CM B cs R, rw_⟩ (B.length + (R.length + 3)) rw_.length ⟨CM B cs' (R ++ X), rw_⟩ ⟨CM B cs' R, rw_⟩ := by
  have := DropW.ck B cs cs' R X rw_ []
  simpa using this
set_option maxRecDepth 100000 in
set_option maxHeartbeats 4000000 in
theorem fail_sim (cs : CS) (code at_ : Int) : SimC 56 [ii code, ii at_] cs (.tup []) (cs.fail code at_) := by
  intro B R rw_
  refine Sim.ofS 18 [] Try.func56 rfl rfl rfl (by simp) fun wr => ?_
  simp only [go_sem, Nat.reduceEqDiff, Nat.reduceBEq, Int.reduceToNat, Int.reduceLT, Int.reduceLE, Int.reduceEq, Nat.reduceLeDiff, Nat.reduceLT, Nat.reduceMul, Nat.reduceAdd, String.reduceEq]
  cases hf : cs.ft with
  | none =>
    have hgo : cs.fail code at_ = { cs with ft := some (code, at_) } := by simp [CS.fail, hf]
    refine TS.of [15] fun Q hQ => ?_
    simp only [go_sem, Nat.reduceEqDiff, Nat.reduceBEq, Int.reduceToNat, Int.reduceLT, Int.reduceLE, Int.reduceEq, Nat.reduceLeDiff, Nat.reduceLT, Nat.reduceMul, Nat.reduceAdd, String.reduceEq, hf, ftI_none]
    refine hQ .normal _ ?_; exact post_end _ _ (.tup []) (by simp only [go_sem, Nat.reduceEqDiff, Nat.reduceBEq, Int.reduceToNat, Int.reduceLT, Int.reduceLE, Int.reduceEq, Nat.reduceLeDiff, Nat.reduceLT, Nat.reduceMul, Nat.reduceAdd, String.reduceEq]) rfl (DropW.ck0 B cs ({ cs with ft := some (code, at_) }) R rw_) ⟨rfl, by rw [hgo]⟩
  | some p =>
    have hgo : cs.fail code at_ = cs := by simp [CS.fail, hf]
    refine TS.of [15] fun Q hQ => ?_
    simp only [go_sem, Nat.reduceEqDiff, Nat.reduceBEq, Int.reduceToNat, Int.reduceLT, Int.reduceLE, Int.reduceEq, Nat.reduceLeDiff, Nat.reduceLT, Nat.reduceMul, Nat.reduceAdd, String.reduceEq, hf, ftI_some]
    refine hQ .normal _ ?_; exact post_end _ _ (.tup []) (by simp only [go_sem, Nat.reduceEqDiff, Nat.reduceBEq, Int.reduceToNat, Int.reduceLT, Int.reduceLE, Int.reduceEq, Nat.reduceLeDiff, Nat.reduceLT, Nat.reduceMul, Nat.reduceAdd, String.reduceEq]) rfl (DropW.ck0 B cs (cs) R rw_) ⟨rfl, by rw [hgo]⟩
/-- What holds of the names of a checker. -/
structure CS.ok (cs : CS) : Prop where
  kb : ∀ e ∈ cs.kn, e.2.2 < cs.kc
  ub : ∀ e ∈ cs.us, e.2.2 < cs.uc
  pos : ∀ e ∈ cs.us, 0 < e.2.1
  sub : ∀ s, getM s cs.us = none → getM s cs.kn = none
  kpos : ∀ e ∈ cs.kn, 0 < e.2.1
  ul : cs.us.length ≤ 16
def CS.declare (name : Bytes) (kind at_ : Int) (cs : CS) : CS :=
  if cs.ft.isSome then cs
  else if 0 < (getM name cs.us).getD 0 then cs.fail 9 at_
  else if 16 ≤ cs.us.length then cs.fail 15 at_
  else { cs with us := cs.us ++ [(name, kind, cs.uc)], uc := cs.uc + 1, kn := cs.kn ++ [(name, kind, cs.kc)], kc := cs.kc + 1 }
theorem getM_mem {s : Bytes} : ∀ {l : List Ent} {v : Int}, getM s l = some v → ∃ e ∈ l, e.1 = s ∧ e.2.1 = v
  | [], v, h => by cases h
  | e :: l, v, h => by
    unfold getM at h
    split at h
    · rename_i hs; cases h; exact ⟨e, List.mem_cons_self .., hs.symm, rfl⟩
    · obtain ⟨e', h1, h2⟩ := getM_mem h; exact ⟨e', List.mem_cons_of_mem _ h1, h2⟩
theorem CS.ok.absent {cs : CS} (h : cs.ok) {s : Bytes} (hz : ¬ 0 < (getM s cs.us).getD 0) : getM s cs.us = none ∧ getM s cs.kn = none := by
  have : getM s cs.us = none := by
    cases hg : getM s cs.us with
    | none => rfl
    | some v =>
      exfalso
      rw [hg] at hz
      obtain ⟨e, h1, h2, h3⟩ := getM_mem hg
      have := h.pos e h1
      apply hz
      simp only [Option.getD_some]
      omega
  exact ⟨this, h.sub s this⟩
set_option maxRecDepth 100000 in
set_option maxHeartbeats 4000000 in
theorem declare_sim (cs : CS) (hok : cs.ok) (hlen : cs.us.length < 900000) (name : Bytes) (kind at_ : Int) : SimC 57 [ss name, ii kind, ii at_] cs (.tup []) (cs.declare name kind at_) := by
  intro B R rw_
  refine Sim.ofS 51 [] Try.func57 rfl rfl rfl (by simp) fun wr => ?_
  simp only [go_sem, Nat.reduceEqDiff, Nat.reduceBEq, Int.reduceToNat, Int.reduceLT, Int.reduceLE, Int.reduceEq, Nat.reduceLeDiff, Nat.reduceLT, Nat.reduceMul, Nat.reduceAdd, String.reduceEq]
  cases hf : cs.ft with
  | some p =>
    have hgo : cs.declare name kind at_ = cs := by simp [CS.declare, hf]
    refine TS.of [] fun Q hQ => ?_
    simp only [go_sem, Nat.reduceEqDiff, Nat.reduceBEq, Int.reduceToNat, Int.reduceLT, Int.reduceLE, Int.reduceEq, Nat.reduceLeDiff, Nat.reduceLT, Nat.reduceMul, Nat.reduceAdd, String.reduceEq, hf, ftI_some]
    refine hQ .ret _ ?_; exact post_ret _ _ (.tup []) (by simp only [go_sem, Nat.reduceEqDiff, Nat.reduceBEq, Int.reduceToNat, Int.reduceLT, Int.reduceLE, Int.reduceEq, Nat.reduceLeDiff, Nat.reduceLT, Nat.reduceMul, Nat.reduceAdd, String.reduceEq]) rfl (DropW.ck0 B cs (cs) R rw_) ⟨rfl, by rw [hgo]⟩
  | none =>
    by_cases hz : 0 < (getM name cs.us).getD 0
    · have hgo : cs.declare name kind at_ = cs.fail 9 at_ := by simp [CS.declare, hf, hz]
      refine TS.of [] fun Q hQ => ?_
      simp only [go_sem, Nat.reduceEqDiff, Nat.reduceBEq, Int.reduceToNat, Int.reduceLT, Int.reduceLE, Int.reduceEq, Nat.reduceLeDiff, Nat.reduceLT, Nat.reduceMul, Nat.reduceAdd, String.reduceEq, hf, ftI_none, Mem.map_, mlook_enc, mval_enc, hz]
      refine cal_eq ((fail_sim cs 9 at_) B R rw_) ?_
      simp only [go_sem, Nat.reduceEqDiff, Nat.reduceBEq, Int.reduceToNat, Int.reduceLT, Int.reduceLE, Int.reduceEq, Nat.reduceLeDiff, Nat.reduceLT, Nat.reduceMul, Nat.reduceAdd, String.reduceEq]
      refine hQ .ret _ ?_; exact post_ret _ _ (.tup []) (by simp only [go_sem, Nat.reduceEqDiff, Nat.reduceBEq, Int.reduceToNat, Int.reduceLT, Int.reduceLE, Int.reduceEq, Nat.reduceLeDiff, Nat.reduceLT, Nat.reduceMul, Nat.reduceAdd, String.reduceEq]) rfl (DropW.ck0 B cs (cs.fail 9 at_) R rw_) ⟨rfl, by rw [hgo]⟩
    · obtain ⟨hu, hk⟩ := hok.absent hz
      by_cases hl : 16 ≤ cs.us.length
      · have hgo : cs.declare name kind at_ = cs.fail 15 at_ := by simp [CS.declare, hf, hz, hl]
        have hl' : (16 : Int) ≤ (cs.us.length : Int) := by omega
        refine TS.of [] fun Q hQ => ?_
        simp only [go_sem, Nat.reduceEqDiff, Nat.reduceBEq, Int.reduceToNat, Int.reduceLT, Int.reduceLE, Int.reduceEq, Nat.reduceLeDiff, Nat.reduceLT, Nat.reduceMul, Nat.reduceAdd, String.reduceEq, hf, ftI_none, Mem.map_, mlook_enc, mval_enc, hz, encM_size, hl']
        refine cal_eq ((fail_sim cs 15 at_) B R rw_) ?_
        simp only [go_sem, Nat.reduceEqDiff, Nat.reduceBEq, Int.reduceToNat, Int.reduceLT, Int.reduceLE, Int.reduceEq, Nat.reduceLeDiff, Nat.reduceLT, Nat.reduceMul, Nat.reduceAdd, String.reduceEq]
        refine hQ .ret _ ?_; exact post_ret _ _ (.tup []) (by simp only [go_sem, Nat.reduceEqDiff, Nat.reduceBEq, Int.reduceToNat, Int.reduceLT, Int.reduceLE, Int.reduceEq, Nat.reduceLeDiff, Nat.reduceLT, Nat.reduceMul, Nat.reduceAdd, String.reduceEq]) rfl (DropW.ck0 B cs (cs.fail 15 at_) R rw_) ⟨rfl, by rw [hgo]⟩
      · have hgo : cs.declare name kind at_ = { cs with us := cs.us ++ [(name, kind, cs.uc)], uc := cs.uc + 1, kn := cs.kn ++ [(name, kind, cs.kc)], kc := cs.kc + 1 } := by simp [CS.declare, hf, hz, hl]
        have hl' : ¬ (16 : Int) ≤ (cs.us.length : Int) := by omega
        have h1 := ment_enc (c := cs.uc) hu
        have h2 := born_enc (c := cs.uc) hu
        have h3 := estore_enc (s := name) (v := kind) hok.ub
        have g1 := ment_enc (c := cs.kc) hk
        have g2 := born_enc (c := cs.kc) hk
        have g3 := estore_enc (s := name) (v := kind) hok.kb
        refine TS.of [] fun Q hQ => ?_
        simp only [go_sem, Nat.reduceEqDiff, Nat.reduceBEq, Int.reduceToNat, Int.reduceLT, Int.reduceLE, Int.reduceEq, Nat.reduceLeDiff, Nat.reduceLT, Nat.reduceMul, Nat.reduceAdd, String.reduceEq, hf, ftI_none, Mem.map_, mlook_enc, mval_enc, hz, encM_size, hl']
        refine drn_of ⟨[], [], []⟩ [0, 1, 3, 7, 0, 0, 32, 96, 224, 0, 0, 0, 511, 4607, 13823, 30719, 63487, 131071] (by kernel_rfl) ?_
        simp only [go_sem, Nat.reduceEqDiff, Nat.reduceBEq, Int.reduceToNat, Int.reduceLT, Int.reduceLE, Int.reduceEq, Nat.reduceLeDiff, Nat.reduceLT, Nat.reduceMul, Nat.reduceAdd, String.reduceEq, hf, ftI_none, Mem.map_, mlook_enc, mval_enc, h1, h2, h3.1, h3.2, g1, g2, g3.1, g3.2]
        refine hQ .normal _ ?_; exact post_end _ _ (.tup []) (by simp only [go_sem, Nat.reduceEqDiff, Nat.reduceBEq, Int.reduceToNat, Int.reduceLT, Int.reduceLE, Int.reduceEq, Nat.reduceLeDiff, Nat.reduceLT, Nat.reduceMul, Nat.reduceAdd, String.reduceEq]) rfl (DropW.ck0 B cs ({ cs with us := cs.us ++ [(name, kind, cs.uc)], uc := cs.uc + 1, kn := cs.kn ++ [(name, kind, cs.kc)], kc := cs.kc + 1 }) R rw_) ⟨rfl, by rw [hgo]⟩
end Go.Proofs.Ytphjldhdnmoolaa.A
/- The walks of some functions over the abstract machine. -/
namespace Go.Proofs.Ytphjldhdnmoolaa.A
open Go
mutual
def cexpr : Expr → CS → Int × Int × CS
  | .mk k _ s a p, cs =>
    if k = 1 then (1, 1, cs)
    else if k = 2 then
      if s = qTrue ∨ s = qFalse then (2, 1, cs)
      else match getM s cs.kn with
        | some v => (v, 1, cs)
        | none => (0, 1, cs.fail 9 p)
    else if k = 3 then (1, 1 + (cargs a 1 { cs with rd := true }).1, (cargs a 1 { cs with rd := true }).2)
    else if k = 4 then (2, 1 + (cargs a 2 cs).1, (cargs a 2 cs).2)
    else if k = 5 then (1, 1 + (cargs a 1 cs).1, (cargs a 1 cs).2)
    else if s = qAnd ∨ s = qOr then (2, 1 + (cargs a 2 cs).1, (cargs a 2 cs).2)
    else if s = qLt ∨ s = qLe ∨ s = qGt ∨ s = qGe then (2, 1 + (cargs a 1 cs).1, (cargs a 1 cs).2)
    else if s = qEq ∨ s = qNe then
      if a.length = 2 then (2, 1 + (ceq a cs).1, (ceq a cs).2) else (2, 1, cs)
    else (1, 1 + (cargs a 1 cs).1, (cargs a 1 cs).2)
def cargs : List Expr → Int → CS → Int × CS
  | [], _, cs => (0, cs)
  | e :: l, kind, cs =>
    ((cexpr e cs).2.1 + (cargs l kind (if (cexpr e cs).1 = kind then (cexpr e cs).2.2 else (cexpr e cs).2.2.fail 10 e.p)).1,
      (cargs l kind (if (cexpr e cs).1 = kind then (cexpr e cs).2.2 else (cexpr e cs).2.2.fail 10 e.p)).2)
def ceq : List Expr → CS → Int × CS
  | [], cs => (0, cs)
  | e :: l, cs => ((cexpr e cs).2.1 + (cargs l (cexpr e cs).1 (cexpr e cs).2.2).1, (cargs l (cexpr e cs).1 (cexpr e cs).2.2).2)
end
def cwant (e : Expr) (kind : Int) (cs : CS) : Int × CS := ((cexpr e cs).2.1, if (cexpr e cs).1 = kind then (cexpr e cs).2.2 else (cexpr e cs).2.2.fail 10 e.p)
theorem cargs_cons (e : Expr) (l : List Expr) (kind : Int) (cs : CS) : cargs (e :: l) kind cs = ((cwant e kind cs).1 + (cargs l kind (cwant e kind cs).2).1, (cargs l kind (cwant e kind cs).2).2) := by rw [cargs]; rfl
theorem ceq_two (x y : Expr) (cs : CS) : ceq [x, y] cs = ((cexpr x cs).2.1 + (cwant y (cexpr x cs).1 (cexpr x cs).2.2).1, (cwant y (cexpr x cs).1 (cexpr x cs).2.2).2) := by rw [ceq, cargs_cons]; simp [cargs]
mutual
theorem cexpr_le : ∀ (e : Expr) (cs : CS), 0 ≤ (cexpr e cs).2.1 ∧ (cexpr e cs).2.1 ≤ szE e
  | .mk k _ s a p, cs => by
    unfold cexpr szE
    have h1 := fun kind cs => cargs_le a kind cs
    have h2 := fun cs => ceq_le a cs
    have s0 : 0 ≤ szs a := Nat.zero_le _
    repeat' split
    all_goals dsimp only
    all_goals first | omega | (have := h1 1 { cs with rd := true }; omega) | (have := h1 2 cs; omega) | (have := h1 1 cs; omega) | (have := h2 cs; omega)
theorem cargs_le : ∀ (l : List Expr) (kind : Int) (cs : CS), 0 ≤ (cargs l kind cs).1 ∧ (cargs l kind cs).1 ≤ szs l
  | [], kind, cs => by simp [cargs, szs]
  | e :: l, kind, cs => by
    rw [cargs, szs]
    have h1 := cexpr_le e cs
    have h2 := cargs_le l kind (if (cexpr e cs).1 = kind then (cexpr e cs).2.2 else (cexpr e cs).2.2.fail 10 e.p)
    dsimp only
    omega
theorem ceq_le : ∀ (l : List Expr) (cs : CS), 0 ≤ (ceq l cs).1 ∧ (ceq l cs).1 ≤ szs l
  | [], cs => by simp [ceq, szs]
  | e :: l, cs => by
    rw [ceq, szs]
    have h1 := cexpr_le e cs
    have h2 := cargs_le l (cexpr e cs).1 (cexpr e cs).2.2
    dsimp only
    omega
end
def EC (N : Nat) : Prop := ∀ (e : Expr) (cs : CS), szE e ≤ N → SimC 81 [.agg (encE e)] cs (.tup [ii (cexpr e cs).1, ii (cexpr e cs).2.1]) (cexpr e cs).2.2
def WC (N : Nat) : Prop := ∀ (e : Expr) (kind : Int) (cs : CS), szE e ≤ N → SimC 58 [.agg (encE e), ii kind] cs (ii (cwant e kind cs).1) (cwant e kind cs).2
def AC (N : Nat) : Prop := ∀ (e : Expr) (kind : Int) (cs : CS), szs e.a ≤ N → SimC 97 [.agg (encE e), ii kind] cs (ii (1 + (cargs e.a kind cs).1)) (cargs e.a kind cs).2
set_option maxRecDepth 100000 in
set_option maxHeartbeats 4000000 in
theorem want_step {N : Nat} (ih : EC N) : WC N := by
  intro e kind cs hN B R rw_
  refine Sim.ofS 23 [.tmp 6] Try.func58 rfl rfl rfl (by simp) fun wr => ?_
  simp only [go_sem, Nat.reduceEqDiff, Nat.reduceBEq, Int.reduceToNat, Int.reduceLT, Int.reduceLE, Int.reduceEq, Nat.reduceLeDiff, Nat.reduceLT, Nat.reduceMul, Nat.reduceAdd, String.reduceEq]
  have hsub := ih e cs hN B R rw_
  have hgo : cwant e kind cs = cwant e kind cs := rfl
  conv at hgo => rhs; unfold cwant
  generalize cexpr e cs = X at hsub hgo
  refine TS.of [4] fun Q hQ => ?_
  simp only [go_sem, Nat.reduceEqDiff, Nat.reduceBEq, Int.reduceToNat, Int.reduceLT, Int.reduceLE, Int.reduceEq, Nat.reduceLeDiff, Nat.reduceLT, Nat.reduceMul, Nat.reduceAdd, String.reduceEq, encE_eq]
  refine cal_eq (by simpa only [encE_eq] using hsub) ?_
  by_cases hk : X.1 = kind
  · rw [if_pos hk] at hgo
    simp only [go_sem, Nat.reduceEqDiff, Nat.reduceBEq, Int.reduceToNat, Int.reduceLT, Int.reduceLE, Int.reduceEq, Nat.reduceLeDiff, Nat.reduceLT, Nat.reduceMul, Nat.reduceAdd, String.reduceEq, hk]
    refine hQ .ret _ ?_; exact post_ret _ _ (ii X.2.1) (by simp only [go_sem, Nat.reduceEqDiff, Nat.reduceBEq, Int.reduceToNat, Int.reduceLT, Int.reduceLE, Int.reduceEq, Nat.reduceLeDiff, Nat.reduceLT, Nat.reduceMul, Nat.reduceAdd, String.reduceEq]) rfl (DropW.ck0 B cs (X.2.2) R rw_) ⟨by rw [hgo], by rw [hgo]⟩
  · rw [if_neg hk] at hgo
    simp only [go_sem, Nat.reduceEqDiff, Nat.reduceBEq, Int.reduceToNat, Int.reduceLT, Int.reduceLE, Int.reduceEq, Nat.reduceLeDiff, Nat.reduceLT, Nat.reduceMul, Nat.reduceAdd, String.reduceEq, hk]
    refine cal_eq (fail_sim X.2.2 10 e.p B R rw_) ?_
    simp only [go_sem, Nat.reduceEqDiff, Nat.reduceBEq, Int.reduceToNat, Int.reduceLT, Int.reduceLE, Int.reduceEq, Nat.reduceLeDiff, Nat.reduceLT, Nat.reduceMul, Nat.reduceAdd, String.reduceEq]
    refine hQ .ret _ ?_; exact post_ret _ _ (ii X.2.1) (by simp only [go_sem, Nat.reduceEqDiff, Nat.reduceBEq, Int.reduceToNat, Int.reduceLT, Int.reduceLE, Int.reduceEq, Nat.reduceLeDiff, Nat.reduceLT, Nat.reduceMul, Nat.reduceAdd, String.reduceEq]) rfl (DropW.ck0 B cs (X.2.2.fail 10 e.p) R rw_) ⟨by rw [hgo], by rw [hgo]⟩
theorem SimC.mem {f : FuncId} {args : List IV} {cs cs' : CS} {r : IV} (h : SimC f args cs r cs') (B R : List IObj) (rw_ : List Nat) : Sim f (.ptr (B.length + 2) 0 :: args) ⟨CM B cs R, rw_⟩ (fun x m' => x = r ∧ m' = ⟨CM B cs' R, rw_⟩) := h B R rw_
set_option maxRecDepth 100000 in
set_option maxHeartbeats 4000000 in
theorem args_step {N : Nat} (hNb : N < 900000) (ih : WC N) : AC N := by
  intro e kind cs hN B R rw_
  refine Sim.ofS 25 [.tmp 6] Try.func97 rfl rfl rfl (by simp) fun wr => ?_
  simp only [go_sem, Nat.reduceEqDiff, Nat.reduceBEq, Int.reduceToNat, Int.reduceLT, Int.reduceLE, Int.reduceEq, Nat.reduceLeDiff, Nat.reduceLT, Nat.reduceMul, Nat.reduceAdd, String.reduceEq]
  have hll := szs_len e.a
  refine TS.seq (TS.of [4] fun Q hQ => ?_)
  simp only [go_sem, Nat.reduceEqDiff, Nat.reduceBEq, Int.reduceToNat, Int.reduceLT, Int.reduceLE, Int.reduceEq, Nat.reduceLeDiff, Nat.reduceLT, Nat.reduceMul, Nat.reduceAdd, String.reduceEq, encE_eq]
  refine hQ .normal _ ?_; clear hQ Q
  refine TS.seq (TS.of [] fun Q hQ => ?_)
  simp only [go_sem, Nat.reduceEqDiff, Nat.reduceBEq, Int.reduceToNat, Int.reduceLT, Int.reduceLE, Int.reduceEq, Nat.reduceLeDiff, Nat.reduceLT, Nat.reduceMul, Nat.reduceAdd, String.reduceEq]
  refine hQ .normal _ ?_; clear hQ Q
  refine TS.seq (TS.seq (TS.of [] fun Q hQ => ?_))
  simp only [go_sem, Nat.reduceEqDiff, Nat.reduceBEq, Int.reduceToNat, Int.reduceLT, Int.reduceLE, Int.reduceEq, Nat.reduceLeDiff, Nat.reduceLT, Nat.reduceMul, Nat.reduceAdd, String.reduceEq]
  refine hQ .normal _ ?_; clear hQ Q
  refine TS.block (TS.loop (α := Nat × Int × CS) (fun x => [(0, .ptr (B.length + 2) 0), (2, ii kind), (7, ii x.2.1), (11, slE e.a), (12, ii e.a.length), (13, ii x.1)]) (fun x => ⟨CM B x.2.2 R, rw_⟩) (fun x => x.1 ≤ e.a.length ∧ 0 ≤ x.2.1 ∧ x.2.1 + szs (e.a.drop x.1) ≤ 1 + szs e.a ∧ x.2.1 + (cargs (e.a.drop x.1) kind x.2.2).1 = 1 + (cargs e.a kind cs).1 ∧ (cargs (e.a.drop x.1) kind x.2.2).2 = (cargs e.a kind cs).2) (fun x => e.a.length - x.1) (0, 1, cs) (by simp) ⟨by simp [Has, upd_apply, argsT], rfl, by simp⟩ ?_)
  rintro ⟨k, n, c1⟩ st hH hm ⟨hk, hn0, hn1, hc1, hc2⟩
  dsimp only at hH hm hk hn0 hn1 hc1 hc2
  simp only [Has, List.mem_cons, List.not_mem_nil, or_false, forall_eq_or_imp, forall_eq] at hH; obtain ⟨i0, i2, i7, i11, i12, i13⟩ := hH
  by_cases hlt : k < e.a.length
  · obtain ⟨x, hx⟩ : ∃ x, e.a[k]? = some x := ⟨_, List.getElem?_eq_getElem hlt⟩
    have hdr : e.a.drop k = x :: e.a.drop (k + 1) := by rw [List.drop_eq_getElem_cons hlt]; congr 1; exact Option.some.inj ((List.getElem?_eq_getElem hlt).symm.trans hx)
    have hat := encEs_at hx
    have hlt5 : k * 5 < (encEs e.a).length := by rw [encEs_length]; omega
    have hw := wrap_succ hlt (by omega)
    have hsz := szE_at hx
    rw [hdr, cargs_cons] at hc1 hc2
    rw [hdr, szs] at hn1
    have hcw : 0 ≤ (cwant x kind c1).1 ∧ (cwant x kind c1).1 ≤ szE x := cexpr_le x c1
    have hsub := (ih x kind c1 (by omega)).mem B (R ++ [.cells (encE x)]) rw_
    rw [encE_eq] at hsub
    generalize cwant x kind c1 = X at hc1 hc2 hsub hcw
    have hw2 : IntKind.i64.wrap (n + X.1) = n + X.1 := wrap_small (by omega) (by omega)
    refine TS.of [] fun Q hQ => ?_
    simp only [go_sem, Nat.reduceEqDiff, Nat.reduceBEq, Int.reduceToNat, Int.reduceLT, Int.reduceLE, Int.reduceEq, Nat.reduceLeDiff, Nat.reduceLT, Nat.reduceMul, Nat.reduceAdd, String.reduceEq, i0, i2, i7, i11, i12, i13, hm, hlt, hat, hlt5]
    refine cal_eq hsub ?_
    simp only [go_sem, Nat.reduceEqDiff, Nat.reduceBEq, Int.reduceToNat, Int.reduceLT, Int.reduceLE, Int.reduceEq, Nat.reduceLeDiff, Nat.reduceLT, Nat.reduceMul, Nat.reduceAdd, String.reduceEq, i0, i2, i7, i11, i12, i13, hw, hw2]
    refine hQ .normal _ ?_; clear hQ Q
    refine ⟨_, _, (k + 1, n + X.1, X.2), DropW.ckX B c1 X.2 R rw_ _, ?_, ⟨hlt, by dsimp only; omega, by dsimp only; omega, by dsimp only at hc1 ⊢; omega, hc2⟩, by dsimp only; omega⟩
    simp [upd_apply, i0, i2, i11, i12, IV.np, np_sh, npEs] <;> omega
  · refine TS.of [] fun Q hQ => ?_
    simp only [go_sem, Nat.reduceEqDiff, Nat.reduceBEq, Int.reduceToNat, Int.reduceLT, Int.reduceLE, Int.reduceEq, Nat.reduceLeDiff, Nat.reduceLT, Nat.reduceMul, Nat.reduceAdd, String.reduceEq, i0, i2, i7, i11, i12, i13, hm, hlt]
    refine hQ (.exit 0) _ ?_; clear hQ Q
    have : e.a.drop k = [] := List.drop_eq_nil_of_le (by omega)
    rw [this] at hc1 hc2
    simp only [cargs] at hc1 hc2
    refine TS.of [] fun Q hQ => ?_
    simp only [go_sem, Nat.reduceEqDiff, Nat.reduceBEq, Int.reduceToNat, Int.reduceLT, Int.reduceLE, Int.reduceEq, Nat.reduceLeDiff, Nat.reduceLT, Nat.reduceMul, Nat.reduceAdd, String.reduceEq, i0, i2, i7, i11, i12, i13]
    refine hQ .ret _ ?_; exact post_ret _ _ (ii n) (by simp only [go_sem, Nat.reduceEqDiff, Nat.reduceBEq, Int.reduceToNat, Int.reduceLT, Int.reduceLE, Int.reduceEq, Nat.reduceLeDiff, Nat.reduceLT, Nat.reduceMul, Nat.reduceAdd, String.reduceEq]) rfl (DropW.ck0 B cs (c1) R rw_) ⟨by rw [show 1 + (cargs e.a kind cs).1 = n by omega], by rw [hc2]⟩
set_option maxRecDepth 100000 in
set_option maxHeartbeats 4000000 in
theorem expr_cstep {N : Nat} (hNb : N < 900000) (ihE : ∀ M, M < N → EC M) (ihW : ∀ M, M < N → WC M) (ihA : ∀ M, M < N → AC M) : EC N := by
  intro e cs hN B R rw_
  have hsz := szE_eq e
  have hll := szs_len e.a
  refine Sim.ofS 104 [.tmp 4, .tmp 5] Try.func81 rfl rfl rfl (by simp) fun wr => ?_
  simp only [go_sem, Nat.reduceEqDiff, Nat.reduceBEq, Int.reduceToNat, Int.reduceLT, Int.reduceLE, Int.reduceEq, Nat.reduceLeDiff, Nat.reduceLT, Nat.reduceMul, Nat.reduceAdd, String.reduceEq]
  have hgo : cexpr e cs = cexpr e cs := rfl
  conv at hgo => rhs; rw [show e = .mk e.k e.n e.s e.a e.p by cases e; rfl]; unfold cexpr
  have hA := fun kind cs => ihA (szs e.a) (by omega) e kind cs (Nat.le_refl _)
  by_cases k1 : e.k = 1
  · rw [if_pos k1] at hgo
    refine TS.of [3] fun Q hQ => ?_
    simp only [go_sem, Nat.reduceEqDiff, Nat.reduceBEq, Int.reduceToNat, Int.reduceLT, Int.reduceLE, Int.reduceEq, Nat.reduceLeDiff, Nat.reduceLT, Nat.reduceMul, Nat.reduceAdd, String.reduceEq, encE_eq, k1]
    refine hQ .ret _ ?_; exact post_ret _ _ (.tup [ii 1, ii 1]) (by simp only [go_sem, Nat.reduceEqDiff, Nat.reduceBEq, Int.reduceToNat, Int.reduceLT, Int.reduceLE, Int.reduceEq, Nat.reduceLeDiff, Nat.reduceLT, Nat.reduceMul, Nat.reduceAdd, String.reduceEq]) rfl (DropW.ck0 B cs (cs) R rw_) ⟨by rw [hgo], by rw [hgo]⟩
  rw [if_neg k1] at hgo
  by_cases k2 : e.k = 2
  · rw [if_pos k2] at hgo
    by_cases t1 : e.s = qTrue ∨ e.s = qFalse
    · rw [if_pos t1] at hgo
      refine TS.of [3] fun Q hQ => ?_
      by_cases t2 : e.s = ⟨#[116, 114, 117, 101]⟩
      · simp only [go_sem, Nat.reduceEqDiff, Nat.reduceBEq, Int.reduceToNat, Int.reduceLT, Int.reduceLE, Int.reduceEq, Nat.reduceLeDiff, Nat.reduceLT, Nat.reduceMul, Nat.reduceAdd, String.reduceEq, encE_eq, k1, k2, t2]
        refine hQ .ret _ ?_; exact post_ret _ _ (.tup [ii 2, ii 1]) (by simp only [go_sem, Nat.reduceEqDiff, Nat.reduceBEq, Int.reduceToNat, Int.reduceLT, Int.reduceLE, Int.reduceEq, Nat.reduceLeDiff, Nat.reduceLT, Nat.reduceMul, Nat.reduceAdd, String.reduceEq]) rfl (DropW.ck0 B cs (cs) R rw_) ⟨by rw [hgo], by rw [hgo]⟩
      · have t3 : e.s = ⟨#[102, 97, 108, 115, 101]⟩ := by rcases t1 with h | h; exact absurd h t2; exact h
        have t4 : ¬ ((⟨#[102, 97, 108, 115, 101]⟩ : ByteArray) = ⟨#[116, 114, 117, 101]⟩) := by decide
        simp only [go_sem, Nat.reduceEqDiff, Nat.reduceBEq, Int.reduceToNat, Int.reduceLT, Int.reduceLE, Int.reduceEq, Nat.reduceLeDiff, Nat.reduceLT, Nat.reduceMul, Nat.reduceAdd, String.reduceEq, encE_eq, k1, k2, t3, t4]
        refine hQ .ret _ ?_; exact post_ret _ _ (.tup [ii 2, ii 1]) (by simp only [go_sem, Nat.reduceEqDiff, Nat.reduceBEq, Int.reduceToNat, Int.reduceLT, Int.reduceLE, Int.reduceEq, Nat.reduceLeDiff, Nat.reduceLT, Nat.reduceMul, Nat.reduceAdd, String.reduceEq]) rfl (DropW.ck0 B cs (cs) R rw_) ⟨by rw [hgo], by rw [hgo]⟩
    · rw [if_neg t1] at hgo
      have t2 : ¬ e.s = ⟨#[116, 114, 117, 101]⟩ := fun h => t1 (.inl h)
      have t3 : ¬ e.s = ⟨#[102, 97, 108, 115, 101]⟩ := fun h => t1 (.inr h)
      cases hg : getM e.s cs.kn with
      | some v =>
        rw [hg] at hgo
        refine TS.of [3] fun Q hQ => ?_
        simp only [go_sem, Nat.reduceEqDiff, Nat.reduceBEq, Int.reduceToNat, Int.reduceLT, Int.reduceLE, Int.reduceEq, Nat.reduceLeDiff, Nat.reduceLT, Nat.reduceMul, Nat.reduceAdd, String.reduceEq, encE_eq, k1, k2, t2, t3]
        refine drn_of ⟨[], [], []⟩ [0, 1, 3, 7, 0, 16, 63, 127, 255, 255, 511, 2047] (by kernel_rfl) ?_
        simp only [go_sem, Nat.reduceEqDiff, Nat.reduceBEq, Int.reduceToNat, Int.reduceLT, Int.reduceLE, Int.reduceEq, Nat.reduceLeDiff, Nat.reduceLT, Nat.reduceMul, Nat.reduceAdd, String.reduceEq, Mem.map_, mlook_enc, mval_enc, some_enc, hg, Option.getD_some, Option.isSome_some]
        refine hQ .ret _ ?_; exact post_ret _ _ (.tup [ii v, ii 1]) (by simp only [go_sem, Nat.reduceEqDiff, Nat.reduceBEq, Int.reduceToNat, Int.reduceLT, Int.reduceLE, Int.reduceEq, Nat.reduceLeDiff, Nat.reduceLT, Nat.reduceMul, Nat.reduceAdd, String.reduceEq]) rfl (DropW.ck0 B cs (cs) R rw_) ⟨by rw [hgo], by rw [hgo]⟩
      | none =>
        rw [hg] at hgo
        refine TS.of [3] fun Q hQ => ?_
        simp only [go_sem, Nat.reduceEqDiff, Nat.reduceBEq, Int.reduceToNat, Int.reduceLT, Int.reduceLE, Int.reduceEq, Nat.reduceLeDiff, Nat.reduceLT, Nat.reduceMul, Nat.reduceAdd, String.reduceEq, encE_eq, k1, k2, t2, t3]
        refine drn_of ⟨[], [], []⟩ [0, 1, 3, 7, 0, 16, 63, 127, 255, 255, 511, 2047] (by kernel_rfl) ?_
        simp only [go_sem, Nat.reduceEqDiff, Nat.reduceBEq, Int.reduceToNat, Int.reduceLT, Int.reduceLE, Int.reduceEq, Nat.reduceLeDiff, Nat.reduceLT, Nat.reduceMul, Nat.reduceAdd, String.reduceEq, Mem.map_, mlook_enc, mval_enc, some_enc, hg, Option.getD_none, Option.isSome_none]
        refine cal_eq (fail_sim cs 9 e.p B R rw_) ?_
        simp only [go_sem, Nat.reduceEqDiff, Nat.reduceBEq, Int.reduceToNat, Int.reduceLT, Int.reduceLE, Int.reduceEq, Nat.reduceLeDiff, Nat.reduceLT, Nat.reduceMul, Nat.reduceAdd, String.reduceEq]
        refine hQ .ret _ ?_; exact post_ret _ _ (.tup [ii 0, ii 1]) (by simp only [go_sem, Nat.reduceEqDiff, Nat.reduceBEq, Int.reduceToNat, Int.reduceLT, Int.reduceLE, Int.reduceEq, Nat.reduceLeDiff, Nat.reduceLT, Nat.reduceMul, Nat.reduceAdd, String.reduceEq]) rfl (DropW.ck0 B cs (cs.fail 9 e.p) R rw_) ⟨by rw [hgo], by rw [hgo]⟩
  rw [if_neg k2] at hgo
  by_cases k3 : e.k = 3
  · rw [if_pos k3] at hgo
    have hsub := (hA 1 { cs with rd := true }).mem B R rw_
    rw [encE_eq, k3] at hsub
    generalize cargs e.a 1 { cs with rd := true } = X at hgo hsub
    refine TS.of [3] fun Q hQ => ?_
    simp only [go_sem, Nat.reduceEqDiff, Nat.reduceBEq, Int.reduceToNat, Int.reduceLT, Int.reduceLE, Int.reduceEq, Nat.reduceLeDiff, Nat.reduceLT, Nat.reduceMul, Nat.reduceAdd, String.reduceEq, encE_eq, k1, k2, k3]
    refine cal_eq hsub ?_
    simp only [go_sem, Nat.reduceEqDiff, Nat.reduceBEq, Int.reduceToNat, Int.reduceLT, Int.reduceLE, Int.reduceEq, Nat.reduceLeDiff, Nat.reduceLT, Nat.reduceMul, Nat.reduceAdd, String.reduceEq]
    refine hQ .ret _ ?_; exact post_ret _ _ (.tup [ii 1, ii (1 + X.1)]) (by simp only [go_sem, Nat.reduceEqDiff, Nat.reduceBEq, Int.reduceToNat, Int.reduceLT, Int.reduceLE, Int.reduceEq, Nat.reduceLeDiff, Nat.reduceLT, Nat.reduceMul, Nat.reduceAdd, String.reduceEq]) rfl (DropW.ck0 B cs (X.2) R rw_) ⟨by rw [hgo], by rw [hgo]⟩
  rw [if_neg k3] at hgo
  by_cases k4 : e.k = 4
  · rw [if_pos k4] at hgo
    have hsub := (hA 2 cs).mem B R rw_
    rw [encE_eq, k4] at hsub
    generalize cargs e.a 2 cs = X at hgo hsub
    refine TS.of [3] fun Q hQ => ?_
    simp only [go_sem, Nat.reduceEqDiff, Nat.reduceBEq, Int.reduceToNat, Int.reduceLT, Int.reduceLE, Int.reduceEq, Nat.reduceLeDiff, Nat.reduceLT, Nat.reduceMul, Nat.reduceAdd, String.reduceEq, encE_eq, k1, k2, k3, k4]
    refine cal_eq hsub ?_
    simp only [go_sem, Nat.reduceEqDiff, Nat.reduceBEq, Int.reduceToNat, Int.reduceLT, Int.reduceLE, Int.reduceEq, Nat.reduceLeDiff, Nat.reduceLT, Nat.reduceMul, Nat.reduceAdd, String.reduceEq]
    refine hQ .ret _ ?_; exact post_ret _ _ (.tup [ii 2, ii (1 + X.1)]) (by simp only [go_sem, Nat.reduceEqDiff, Nat.reduceBEq, Int.reduceToNat, Int.reduceLT, Int.reduceLE, Int.reduceEq, Nat.reduceLeDiff, Nat.reduceLT, Nat.reduceMul, Nat.reduceAdd, String.reduceEq]) rfl (DropW.ck0 B cs (X.2) R rw_) ⟨by rw [hgo], by rw [hgo]⟩
  rw [if_neg k4] at hgo
  by_cases k5 : e.k = 5
  · rw [if_pos k5] at hgo
    have hsub := (hA 1 cs).mem B R rw_
    rw [encE_eq, k5] at hsub
    generalize cargs e.a 1 cs = X at hgo hsub
    refine TS.of [3] fun Q hQ => ?_
    simp only [go_sem, Nat.reduceEqDiff, Nat.reduceBEq, Int.reduceToNat, Int.reduceLT, Int.reduceLE, Int.reduceEq, Nat.reduceLeDiff, Nat.reduceLT, Nat.reduceMul, Nat.reduceAdd, String.reduceEq, encE_eq, k1, k2, k3, k4, k5]
    refine cal_eq hsub ?_
    simp only [go_sem, Nat.reduceEqDiff, Nat.reduceBEq, Int.reduceToNat, Int.reduceLT, Int.reduceLE, Int.reduceEq, Nat.reduceLeDiff, Nat.reduceLT, Nat.reduceMul, Nat.reduceAdd, String.reduceEq]
    refine hQ .ret _ ?_; exact post_ret _ _ (.tup [ii 1, ii (1 + X.1)]) (by simp only [go_sem, Nat.reduceEqDiff, Nat.reduceBEq, Int.reduceToNat, Int.reduceLT, Int.reduceLE, Int.reduceEq, Nat.reduceLeDiff, Nat.reduceLT, Nat.reduceMul, Nat.reduceAdd, String.reduceEq]) rfl (DropW.ck0 B cs (X.2) R rw_) ⟨by rw [hgo], by rw [hgo]⟩
  rw [if_neg k5] at hgo
  have ne : ∀ a b : ByteArray, e.s = a → a ≠ b → ¬ e.s = b := fun a b h1 h2 h3 => h2 (h1.symm.trans h3)
  by_cases s1 : e.s = qAnd ∨ e.s = qOr
  · rw [if_pos s1] at hgo
    rcases s1 with hs | hs
    · -- and
      have hsub := (hA 2 cs).mem B R rw_
      rw [encE_eq, show e.s = ⟨#[38, 38]⟩ from hs] at hsub
      generalize cargs e.a 2 cs = X at hgo hsub
      refine TS.of [3] fun Q hQ => ?_
      simp only [go_sem, Nat.reduceEqDiff, Nat.reduceBEq, Int.reduceToNat, Int.reduceLT, Int.reduceLE, Int.reduceEq, Nat.reduceLeDiff, Nat.reduceLT, Nat.reduceMul, Nat.reduceAdd, String.reduceEq, encE_eq, k1, k2, k3, k4, k5, show e.s = ⟨#[38, 38]⟩ from hs]
      refine cal_eq hsub ?_
      simp only [go_sem, Nat.reduceEqDiff, Nat.reduceBEq, Int.reduceToNat, Int.reduceLT, Int.reduceLE, Int.reduceEq, Nat.reduceLeDiff, Nat.reduceLT, Nat.reduceMul, Nat.reduceAdd, String.reduceEq]
      refine hQ .ret _ ?_; exact post_ret _ _ (.tup [ii 2, ii (1 + X.1)]) (by simp only [go_sem, Nat.reduceEqDiff, Nat.reduceBEq, Int.reduceToNat, Int.reduceLT, Int.reduceLE, Int.reduceEq, Nat.reduceLeDiff, Nat.reduceLT, Nat.reduceMul, Nat.reduceAdd, String.reduceEq]) rfl (DropW.ck0 B cs (X.2) R rw_) ⟨by rw [hgo], by rw [hgo]⟩
    · -- or
      have w0 : ¬ ((⟨#[124, 124]⟩ : ByteArray) = ⟨#[38, 38]⟩) := by decide
      have hsub := (hA 2 cs).mem B R rw_
      rw [encE_eq, show e.s = ⟨#[124, 124]⟩ from hs] at hsub
      generalize cargs e.a 2 cs = X at hgo hsub
      refine TS.of [3] fun Q hQ => ?_
      simp only [go_sem, Nat.reduceEqDiff, Nat.reduceBEq, Int.reduceToNat, Int.reduceLT, Int.reduceLE, Int.reduceEq, Nat.reduceLeDiff, Nat.reduceLT, Nat.reduceMul, Nat.reduceAdd, String.reduceEq, encE_eq, k1, k2, k3, k4, k5, show e.s = ⟨#[124, 124]⟩ from hs, w0]
      refine cal_eq hsub ?_
      simp only [go_sem, Nat.reduceEqDiff, Nat.reduceBEq, Int.reduceToNat, Int.reduceLT, Int.reduceLE, Int.reduceEq, Nat.reduceLeDiff, Nat.reduceLT, Nat.reduceMul, Nat.reduceAdd, String.reduceEq]
      refine hQ .ret _ ?_; exact post_ret _ _ (.tup [ii 2, ii (1 + X.1)]) (by simp only [go_sem, Nat.reduceEqDiff, Nat.reduceBEq, Int.reduceToNat, Int.reduceLT, Int.reduceLE, Int.reduceEq, Nat.reduceLeDiff, Nat.reduceLT, Nat.reduceMul, Nat.reduceAdd, String.reduceEq]) rfl (DropW.ck0 B cs (X.2) R rw_) ⟨by rw [hgo], by rw [hgo]⟩
  rw [if_neg s1] at hgo
  have n1 : ¬ e.s = ⟨#[38, 38]⟩ := fun h => s1 (.inl h)
  have n2 : ¬ e.s = ⟨#[124, 124]⟩ := fun h => s1 (.inr h)
  by_cases s2 : e.s = qLt ∨ e.s = qLe ∨ e.s = qGt ∨ e.s = qGe
  · rw [if_pos s2] at hgo
    rcases s2 with hs | hs | hs | hs
    · -- <
      have w0 : ¬ ((⟨#[60]⟩ : ByteArray) = ⟨#[38, 38]⟩) := by decide
      have w1 : ¬ ((⟨#[60]⟩ : ByteArray) = ⟨#[124, 124]⟩) := by decide
      have hsub := (hA 1 cs).mem B R rw_
      rw [encE_eq, show e.s = ⟨#[60]⟩ from hs] at hsub
      generalize cargs e.a 1 cs = X at hgo hsub
      refine TS.of [3] fun Q hQ => ?_
      simp only [go_sem, Nat.reduceEqDiff, Nat.reduceBEq, Int.reduceToNat, Int.reduceLT, Int.reduceLE, Int.reduceEq, Nat.reduceLeDiff, Nat.reduceLT, Nat.reduceMul, Nat.reduceAdd, String.reduceEq, encE_eq, k1, k2, k3, k4, k5, show e.s = ⟨#[60]⟩ from hs, w0, w1]
      refine cal_eq hsub ?_
      simp only [go_sem, Nat.reduceEqDiff, Nat.reduceBEq, Int.reduceToNat, Int.reduceLT, Int.reduceLE, Int.reduceEq, Nat.reduceLeDiff, Nat.reduceLT, Nat.reduceMul, Nat.reduceAdd, String.reduceEq]
      refine hQ .ret _ ?_; exact post_ret _ _ (.tup [ii 2, ii (1 + X.1)]) (by simp only [go_sem, Nat.reduceEqDiff, Nat.reduceBEq, Int.reduceToNat, Int.reduceLT, Int.reduceLE, Int.reduceEq, Nat.reduceLeDiff, Nat.reduceLT, Nat.reduceMul, Nat.reduceAdd, String.reduceEq]) rfl (DropW.ck0 B cs (X.2) R rw_) ⟨by rw [hgo], by rw [hgo]⟩
    · -- <=
      have w0 : ¬ ((⟨#[60, 61]⟩ : ByteArray) = ⟨#[38, 38]⟩) := by decide
      have w1 : ¬ ((⟨#[60, 61]⟩ : ByteArray) = ⟨#[124, 124]⟩) := by decide
      have w2 : ¬ ((⟨#[60, 61]⟩ : ByteArray) = ⟨#[60]⟩) := by decide
      have hsub := (hA 1 cs).mem B R rw_
      rw [encE_eq, show e.s = ⟨#[60, 61]⟩ from hs] at hsub
      generalize cargs e.a 1 cs = X at hgo hsub
      refine TS.of [3] fun Q hQ => ?_
      simp only [go_sem, Nat.reduceEqDiff, Nat.reduceBEq, Int.reduceToNat, Int.reduceLT, Int.reduceLE, Int.reduceEq, Nat.reduceLeDiff, Nat.reduceLT, Nat.reduceMul, Nat.reduceAdd, String.reduceEq, encE_eq, k1, k2, k3, k4, k5, show e.s = ⟨#[60, 61]⟩ from hs, w0, w1, w2]
      refine cal_eq hsub ?_
      simp only [go_sem, Nat.reduceEqDiff, Nat.reduceBEq, Int.reduceToNat, Int.reduceLT, Int.reduceLE, Int.reduceEq, Nat.reduceLeDiff, Nat.reduceLT, Nat.reduceMul, Nat.reduceAdd, String.reduceEq]
      refine hQ .ret _ ?_; exact post_ret _ _ (.tup [ii 2, ii (1 + X.1)]) (by simp only [go_sem, Nat.reduceEqDiff, Nat.reduceBEq, Int.reduceToNat, Int.reduceLT, Int.reduceLE, Int.reduceEq, Nat.reduceLeDiff, Nat.reduceLT, Nat.reduceMul, Nat.reduceAdd, String.reduceEq]) rfl (DropW.ck0 B cs (X.2) R rw_) ⟨by rw [hgo], by rw [hgo]⟩
    · -- >
      have w0 : ¬ ((⟨#[62]⟩ : ByteArray) = ⟨#[38, 38]⟩) := by decide
      have w1 : ¬ ((⟨#[62]⟩ : ByteArray) = ⟨#[124, 124]⟩) := by decide
      have w2 : ¬ ((⟨#[62]⟩ : ByteArray) = ⟨#[60]⟩) := by decide
      have w3 : ¬ ((⟨#[62]⟩ : ByteArray) = ⟨#[60, 61]⟩) := by decide
      have hsub := (hA 1 cs).mem B R rw_
      rw [encE_eq, show e.s = ⟨#[62]⟩ from hs] at hsub
      generalize cargs e.a 1 cs = X at hgo hsub
      refine TS.of [3] fun Q hQ => ?_
      simp only [go_sem, Nat.reduceEqDiff, Nat.reduceBEq, Int.reduceToNat, Int.reduceLT, Int.reduceLE, Int.reduceEq, Nat.reduceLeDiff, Nat.reduceLT, Nat.reduceMul, Nat.reduceAdd, String.reduceEq, encE_eq, k1, k2, k3, k4, k5, show e.s = ⟨#[62]⟩ from hs, w0, w1, w2, w3]
      refine cal_eq hsub ?_
      simp only [go_sem, Nat.reduceEqDiff, Nat.reduceBEq, Int.reduceToNat, Int.reduceLT, Int.reduceLE, Int.reduceEq, Nat.reduceLeDiff, Nat.reduceLT, Nat.reduceMul, Nat.reduceAdd, String.reduceEq]
      refine hQ .ret _ ?_; exact post_ret _ _ (.tup [ii 2, ii (1 + X.1)]) (by simp only [go_sem, Nat.reduceEqDiff, Nat.reduceBEq, Int.reduceToNat, Int.reduceLT, Int.reduceLE, Int.reduceEq, Nat.reduceLeDiff, Nat.reduceLT, Nat.reduceMul, Nat.reduceAdd, String.reduceEq]) rfl (DropW.ck0 B cs (X.2) R rw_) ⟨by rw [hgo], by rw [hgo]⟩
    · -- >=
      have w0 : ¬ ((⟨#[62, 61]⟩ : ByteArray) = ⟨#[38, 38]⟩) := by decide
      have w1 : ¬ ((⟨#[62, 61]⟩ : ByteArray) = ⟨#[124, 124]⟩) := by decide
      have w2 : ¬ ((⟨#[62, 61]⟩ : ByteArray) = ⟨#[60]⟩) := by decide
      have w3 : ¬ ((⟨#[62, 61]⟩ : ByteArray) = ⟨#[60, 61]⟩) := by decide
      have w4 : ¬ ((⟨#[62, 61]⟩ : ByteArray) = ⟨#[62]⟩) := by decide
      have hsub := (hA 1 cs).mem B R rw_
      rw [encE_eq, show e.s = ⟨#[62, 61]⟩ from hs] at hsub
      generalize cargs e.a 1 cs = X at hgo hsub
      refine TS.of [3] fun Q hQ => ?_
      simp only [go_sem, Nat.reduceEqDiff, Nat.reduceBEq, Int.reduceToNat, Int.reduceLT, Int.reduceLE, Int.reduceEq, Nat.reduceLeDiff, Nat.reduceLT, Nat.reduceMul, Nat.reduceAdd, String.reduceEq, encE_eq, k1, k2, k3, k4, k5, show e.s = ⟨#[62, 61]⟩ from hs, w0, w1, w2, w3, w4]
      refine cal_eq hsub ?_
      simp only [go_sem, Nat.reduceEqDiff, Nat.reduceBEq, Int.reduceToNat, Int.reduceLT, Int.reduceLE, Int.reduceEq, Nat.reduceLeDiff, Nat.reduceLT, Nat.reduceMul, Nat.reduceAdd, String.reduceEq]
      refine hQ .ret _ ?_; exact post_ret _ _ (.tup [ii 2, ii (1 + X.1)]) (by simp only [go_sem, Nat.reduceEqDiff, Nat.reduceBEq, Int.reduceToNat, Int.reduceLT, Int.reduceLE, Int.reduceEq, Nat.reduceLeDiff, Nat.reduceLT, Nat.reduceMul, Nat.reduceAdd, String.reduceEq]) rfl (DropW.ck0 B cs (X.2) R rw_) ⟨by rw [hgo], by rw [hgo]⟩
  rw [if_neg s2] at hgo
  have n3 : ¬ e.s = ⟨#[60]⟩ := fun h => s2 (.inl h)
  have n4 : ¬ e.s = ⟨#[60, 61]⟩ := fun h => s2 (.inr (.inl h))
  have n5 : ¬ e.s = ⟨#[62]⟩ := fun h => s2 (.inr (.inr (.inl h)))
  have n6 : ¬ e.s = ⟨#[62, 61]⟩ := fun h => s2 (.inr (.inr (.inr h)))
  by_cases s3 : e.s = qEq ∨ e.s = qNe
  · rw [if_pos s3] at hgo
    by_cases hl2 : e.a.length = 2
    · rw [if_pos hl2] at hgo
      obtain ⟨x, y, hxy⟩ : ∃ x y, e.a = [x, y] := by
        match ha : e.a, hl2 with
        | [x, y], _ => exact ⟨x, y, rfl⟩
      rw [hxy, ceq_two] at hgo
      have hszs : szs e.a = szE x + szE y := by rw [hxy]; simp [szs]
      have hpos : 1 ≤ szE x ∧ 1 ≤ szE y := ⟨by rw [szE_eq]; omega, by rw [szE_eq]; omega⟩
      have hsub := (ihE (szE x) (by omega) x cs (Nat.le_refl _)).mem B R rw_
      have hx := cexpr_le x cs
      generalize cexpr x cs = X at hgo hsub hx
      have hsub2 := (ihW (szE y) (by omega) y X.1 X.2.2 (Nat.le_refl _)).mem B R rw_
      have hy : 0 ≤ (cwant y X.1 X.2.2).1 ∧ (cwant y X.1 X.2.2).1 ≤ szE y := cexpr_le y X.2.2
      generalize cwant y X.1 X.2.2 = Y at hgo hsub2 hy
      rw [encE_eq] at hsub hsub2
      have w1 : IntKind.i64.wrap (1 + X.2.1) = 1 + X.2.1 := wrap_small (by omega) (by omega)
      have w2 : IntKind.i64.wrap (1 + X.2.1 + Y.1) = 1 + (X.2.1 + Y.1) := by rw [wrap_small (by omega) (by omega)]; omega
      rcases s3 with hs | hs
      · have n7 : e.s = ⟨#[61, 61]⟩ := hs
        refine TS.of [3] fun Q hQ => ?_
        simp only [go_sem, Nat.reduceEqDiff, Nat.reduceBEq, Int.reduceToNat, Int.reduceLT, Int.reduceLE, Int.reduceEq, Nat.reduceLeDiff, Nat.reduceLT, Nat.reduceMul, Nat.reduceAdd, String.reduceEq, encE_eq, encEs, hxy, k1, k2, k3, k4, k5, n1, n2, n3, n4, n5, n6, n7, show ¬ ((⟨#[61, 61]⟩ : ByteArray) = ⟨#[38, 38]⟩) by decide, show ¬ ((⟨#[61, 61]⟩ : ByteArray) = ⟨#[124, 124]⟩) by decide, show ¬ ((⟨#[61, 61]⟩ : ByteArray) = ⟨#[60]⟩) by decide, show ¬ ((⟨#[61, 61]⟩ : ByteArray) = ⟨#[60, 61]⟩) by decide, show ¬ ((⟨#[61, 61]⟩ : ByteArray) = ⟨#[62]⟩) by decide, show ¬ ((⟨#[61, 61]⟩ : ByteArray) = ⟨#[62, 61]⟩) by decide]
        refine cal_eq hsub ?_
        simp only [go_sem, Nat.reduceEqDiff, Nat.reduceBEq, Int.reduceToNat, Int.reduceLT, Int.reduceLE, Int.reduceEq, Nat.reduceLeDiff, Nat.reduceLT, Nat.reduceMul, Nat.reduceAdd, String.reduceEq, w1]
        refine cal_eq hsub2 ?_
        simp only [go_sem, Nat.reduceEqDiff, Nat.reduceBEq, Int.reduceToNat, Int.reduceLT, Int.reduceLE, Int.reduceEq, Nat.reduceLeDiff, Nat.reduceLT, Nat.reduceMul, Nat.reduceAdd, String.reduceEq, w2]
        refine hQ .ret _ ?_; exact post_ret _ _ (.tup [ii 2, ii (1 + (X.2.1 + Y.1))]) (by simp only [go_sem, Nat.reduceEqDiff, Nat.reduceBEq, Int.reduceToNat, Int.reduceLT, Int.reduceLE, Int.reduceEq, Nat.reduceLeDiff, Nat.reduceLT, Nat.reduceMul, Nat.reduceAdd, String.reduceEq]) rfl (DropW.ck0 B cs (Y.2) R rw_) ⟨by rw [hgo], by rw [hgo]⟩
      · have n7 : e.s = ⟨#[33, 61]⟩ := hs
        refine TS.of [3] fun Q hQ => ?_
        simp only [go_sem, Nat.reduceEqDiff, Nat.reduceBEq, Int.reduceToNat, Int.reduceLT, Int.reduceLE, Int.reduceEq, Nat.reduceLeDiff, Nat.reduceLT, Nat.reduceMul, Nat.reduceAdd, String.reduceEq, encE_eq, encEs, hxy, k1, k2, k3, k4, k5, n1, n2, n3, n4, n5, n6, n7, show ¬ ((⟨#[33, 61]⟩ : ByteArray) = ⟨#[38, 38]⟩) by decide, show ¬ ((⟨#[33, 61]⟩ : ByteArray) = ⟨#[124, 124]⟩) by decide, show ¬ ((⟨#[33, 61]⟩ : ByteArray) = ⟨#[60]⟩) by decide, show ¬ ((⟨#[33, 61]⟩ : ByteArray) = ⟨#[60, 61]⟩) by decide, show ¬ ((⟨#[33, 61]⟩ : ByteArray) = ⟨#[62]⟩) by decide, show ¬ ((⟨#[33, 61]⟩ : ByteArray) = ⟨#[62, 61]⟩) by decide, show ¬ ((⟨#[33, 61]⟩ : ByteArray) = ⟨#[61, 61]⟩) by decide]
        refine cal_eq hsub ?_
        simp only [go_sem, Nat.reduceEqDiff, Nat.reduceBEq, Int.reduceToNat, Int.reduceLT, Int.reduceLE, Int.reduceEq, Nat.reduceLeDiff, Nat.reduceLT, Nat.reduceMul, Nat.reduceAdd, String.reduceEq, w1]
        refine cal_eq hsub2 ?_
        simp only [go_sem, Nat.reduceEqDiff, Nat.reduceBEq, Int.reduceToNat, Int.reduceLT, Int.reduceLE, Int.reduceEq, Nat.reduceLeDiff, Nat.reduceLT, Nat.reduceMul, Nat.reduceAdd, String.reduceEq, w2]
        refine hQ .ret _ ?_; exact post_ret _ _ (.tup [ii 2, ii (1 + (X.2.1 + Y.1))]) (by simp only [go_sem, Nat.reduceEqDiff, Nat.reduceBEq, Int.reduceToNat, Int.reduceLT, Int.reduceLE, Int.reduceEq, Nat.reduceLeDiff, Nat.reduceLT, Nat.reduceMul, Nat.reduceAdd, String.reduceEq]) rfl (DropW.ck0 B cs (Y.2) R rw_) ⟨by rw [hgo], by rw [hgo]⟩
    · rw [if_neg hl2] at hgo
      have hl3 : ¬ ((e.a.length : Int) = 2) := by omega
      rcases s3 with hs | hs
      · have n7 : e.s = ⟨#[61, 61]⟩ := hs
        refine TS.of [3] fun Q hQ => ?_
        simp only [go_sem, Nat.reduceEqDiff, Nat.reduceBEq, Int.reduceToNat, Int.reduceLT, Int.reduceLE, Int.reduceEq, Nat.reduceLeDiff, Nat.reduceLT, Nat.reduceMul, Nat.reduceAdd, String.reduceEq, encE_eq, hl3, k1, k2, k3, k4, k5, n1, n2, n3, n4, n5, n6, n7, show ¬ ((⟨#[61, 61]⟩ : ByteArray) = ⟨#[38, 38]⟩) by decide, show ¬ ((⟨#[61, 61]⟩ : ByteArray) = ⟨#[124, 124]⟩) by decide, show ¬ ((⟨#[61, 61]⟩ : ByteArray) = ⟨#[60]⟩) by decide, show ¬ ((⟨#[61, 61]⟩ : ByteArray) = ⟨#[60, 61]⟩) by decide, show ¬ ((⟨#[61, 61]⟩ : ByteArray) = ⟨#[62]⟩) by decide, show ¬ ((⟨#[61, 61]⟩ : ByteArray) = ⟨#[62, 61]⟩) by decide]
        refine hQ .ret _ ?_; exact post_ret _ _ (.tup [ii 2, ii 1]) (by simp only [go_sem, Nat.reduceEqDiff, Nat.reduceBEq, Int.reduceToNat, Int.reduceLT, Int.reduceLE, Int.reduceEq, Nat.reduceLeDiff, Nat.reduceLT, Nat.reduceMul, Nat.reduceAdd, String.reduceEq]) rfl (DropW.ck0 B cs (cs) R rw_) ⟨by rw [hgo], by rw [hgo]⟩
      · have n7 : e.s = ⟨#[33, 61]⟩ := hs
        refine TS.of [3] fun Q hQ => ?_
        simp only [go_sem, Nat.reduceEqDiff, Nat.reduceBEq, Int.reduceToNat, Int.reduceLT, Int.reduceLE, Int.reduceEq, Nat.reduceLeDiff, Nat.reduceLT, Nat.reduceMul, Nat.reduceAdd, String.reduceEq, encE_eq, hl3, k1, k2, k3, k4, k5, n1, n2, n3, n4, n5, n6, n7, show ¬ ((⟨#[33, 61]⟩ : ByteArray) = ⟨#[38, 38]⟩) by decide, show ¬ ((⟨#[33, 61]⟩ : ByteArray) = ⟨#[124, 124]⟩) by decide, show ¬ ((⟨#[33, 61]⟩ : ByteArray) = ⟨#[60]⟩) by decide, show ¬ ((⟨#[33, 61]⟩ : ByteArray) = ⟨#[60, 61]⟩) by decide, show ¬ ((⟨#[33, 61]⟩ : ByteArray) = ⟨#[62]⟩) by decide, show ¬ ((⟨#[33, 61]⟩ : ByteArray) = ⟨#[62, 61]⟩) by decide, show ¬ ((⟨#[33, 61]⟩ : ByteArray) = ⟨#[61, 61]⟩) by decide]
        refine hQ .ret _ ?_; exact post_ret _ _ (.tup [ii 2, ii 1]) (by simp only [go_sem, Nat.reduceEqDiff, Nat.reduceBEq, Int.reduceToNat, Int.reduceLT, Int.reduceLE, Int.reduceEq, Nat.reduceLeDiff, Nat.reduceLT, Nat.reduceMul, Nat.reduceAdd, String.reduceEq]) rfl (DropW.ck0 B cs (cs) R rw_) ⟨by rw [hgo], by rw [hgo]⟩
  · rw [if_neg s3] at hgo
    have n7 : ¬ e.s = ⟨#[61, 61]⟩ := fun h => s3 (.inl h)
    have n8 : ¬ e.s = ⟨#[33, 61]⟩ := fun h => s3 (.inr h)
    have hsub := (hA 1 cs).mem B R rw_
    rw [encE_eq] at hsub
    generalize cargs e.a 1 cs = X at hgo hsub
    refine TS.of [3] fun Q hQ => ?_
    simp only [go_sem, Nat.reduceEqDiff, Nat.reduceBEq, Int.reduceToNat, Int.reduceLT, Int.reduceLE, Int.reduceEq, Nat.reduceLeDiff, Nat.reduceLT, Nat.reduceMul, Nat.reduceAdd, String.reduceEq, encE_eq, k1, k2, k3, k4, k5, n1, n2, n3, n4, n5, n6, n7, n8]
    refine cal_eq hsub ?_
    simp only [go_sem, Nat.reduceEqDiff, Nat.reduceBEq, Int.reduceToNat, Int.reduceLT, Int.reduceLE, Int.reduceEq, Nat.reduceLeDiff, Nat.reduceLT, Nat.reduceMul, Nat.reduceAdd, String.reduceEq]
    refine hQ .ret _ ?_; exact post_ret _ _ (.tup [ii 1, ii (1 + X.1)]) (by simp only [go_sem, Nat.reduceEqDiff, Nat.reduceBEq, Int.reduceToNat, Int.reduceLT, Int.reduceLE, Int.reduceEq, Nat.reduceLeDiff, Nat.reduceLT, Nat.reduceMul, Nat.reduceAdd, String.reduceEq]) rfl (DropW.ck0 B cs (X.2) R rw_) ⟨by rw [hgo], by rw [hgo]⟩
theorem check_expr : ∀ N, N < 900000 → EC N ∧ WC N ∧ AC N := by
  intro N
  induction N using Nat.strongRecOn with
  | ind N ih =>
    intro hN
    have hE : EC N := expr_cstep hN (fun M h => (ih M h (by omega)).1) (fun M h => (ih M h (by omega)).2.1) (fun M h => (ih M h (by omega)).2.2)
    exact ⟨hE, want_step hE, args_step hN (want_step hE)⟩
theorem cexpr_sim (e : Expr) (cs : CS) (h : szE e < 900000) : SimC 81 [.agg (encE e)] cs (.tup [ii (cexpr e cs).1, ii (cexpr e cs).2.1]) (cexpr e cs).2.2 := (check_expr _ h).1 e cs (Nat.le_refl _)
theorem cwant_sim (e : Expr) (kind : Int) (cs : CS) (h : szE e < 900000) : SimC 58 [.agg (encE e), ii kind] cs (ii (cwant e kind cs).1) (cwant e kind cs).2 := (check_expr _ h).2.1 e kind cs (Nat.le_refl _)
end Go.Proofs.Ytphjldhdnmoolaa.A
/- The walks of some functions over the abstract machine. -/
namespace Go.Proofs.Ytphjldhdnmoolaa.A
open Go
def CS.changes (kind : Int) (cs : CS) : CS :=
  let c1 := { cs with md := if cs.md < (if kind = 3 ∨ kind = 4 then 2 else 3) then (if kind = 3 ∨ kind = 4 then 2 else 3) else cs.md }
  if kind = 2 then { c1 with tn := false } else c1
def clet : List Expr → Int → Int → CS → Int × Int × CS
  | [], k, n, cs => (k, n, cs)
  | e :: l, _, _, cs => clet l (cexpr e cs).1 (cexpr e cs).2.1 (cexpr e cs).2.2
def CS.dels : List Bytes → CS → CS
  | [], cs => cs
  | s :: l, cs => CS.dels l { cs with kn := delM s cs.kn }
mutual
def cstmt : Stmt → CS → Int × CS
  | .mk k s x n b e p, cs =>
    if k = 1 then (1 + (clet x 0 0 cs).2.1, (clet x 0 0 cs).2.2.declare s (clet x 0 0 cs).1 p)
    else if k = 6 then
      (1 + (cargs x 2 cs).1 + (if (cloop b [] 0 (cargs x 2 cs).2).1 < (cloop e [] 0 (cloop b [] 0 (cargs x 2 cs).2).2).1 then (cloop e [] 0 (cloop b [] 0 (cargs x 2 cs).2).2).1 else (cloop b [] 0 (cargs x 2 cs).2).1),
        (cloop e [] 0 (cloop b [] 0 (cargs x 2 cs).2).2).2)
    else if k = 7 ∨ k = 8 then
      if 64 < n then (1, (cs.declare s 1 p).fail 11 p)
      else (1 + n * (if 2049 < 1 + (cloop b [s] 0 (cs.declare s 1 p)).1 then 2049 else 1 + (cloop b [s] 0 (cs.declare s 1 p)).1), (cloop b [s] 0 (cs.declare s 1 p)).2)
    else (1 + (cargs x 1 (cs.changes k)).1, (cargs x 1 (cs.changes k)).2)
def cloop : List Stmt → List Bytes → Int → CS → Int × CS
  | [], also, n, cs => (n, cs.dels also)
  | s :: l, also, n, cs =>
    if (cstmt s cs).2.ft.isSome then (0, (cstmt s cs).2)
    else cloop l (if s.k = 1 then also ++ [s.s] else also) (n + (cstmt s cs).1) (cstmt s cs).2
end
-- loops go upward, lets have a value
mutual
def fineT : Stmt → Prop
  | .mk k _ x n b e _ => 0 ≤ n ∧ (k = 1 → x ≠ []) ∧ fineTs b ∧ fineTs e
def fineTs : List Stmt → Prop
  | [] => True
  | s :: l => fineT s ∧ fineTs l
end
/-- Names stay as they are. -/
def names (a b : CS) : Prop := b.kn = a.kn ∧ b.kc = a.kc ∧ b.us = a.us ∧ b.uc = a.uc ∧ (a.ft ≠ none → b.ft ≠ none)
theorem names.refl (a : CS) : names a a := ⟨rfl, rfl, rfl, rfl, id⟩
theorem names.trans {a b c : CS} (h : names a b) (g : names b c) : names a c := ⟨g.1.trans h.1, g.2.1.trans h.2.1, g.2.2.1.trans h.2.2.1, g.2.2.2.1.trans h.2.2.2.1, fun x => g.2.2.2.2 (h.2.2.2.2 x)⟩
theorem names.fail (a : CS) (c p : Int) : names a (a.fail c p) := by
  unfold CS.fail; split
  · exact ⟨rfl, rfl, rfl, rfl, fun _ => by simp⟩
  · exact names.refl a
theorem CS.ok.names {a b : CS} (h : a.ok) (g : names a b) : b.ok := by
  obtain ⟨g1, g2, g3, g4, _⟩ := g
  exact ⟨by rw [g1, g2]; exact h.kb, by rw [g3, g4]; exact h.ub, by rw [g3]; exact h.pos, by rw [g1, g3]; exact h.sub, by rw [g1]; exact h.kpos, by rw [g3]; exact h.ul⟩
mutual
theorem cexpr_names : ∀ (e : Expr) (cs : CS), names cs (cexpr e cs).2.2
  | .mk k _ s a p, cs => by
    unfold cexpr
    have h0 := cargs_names a 1 { cs with rd := true }
    have h1 := cargs_names a 1 cs
    have h2 := cargs_names a 2 cs
    have h3 := ceq_names a cs
    have h4 := names.fail cs 9 p
    repeat' split
    all_goals first | exact names.refl cs | exact h0 | exact h1 | exact h2 | exact h3 | exact h4
theorem cargs_names : ∀ (l : List Expr) (kind : Int) (cs : CS), names cs (cargs l kind cs).2
  | [], kind, cs => names.refl cs
  | e :: l, kind, cs => by
    rw [cargs]
    have h1 := cexpr_names e cs
    have h2 := cargs_names l kind (if (cexpr e cs).1 = kind then (cexpr e cs).2.2 else (cexpr e cs).2.2.fail 10 e.p)
    refine names.trans ?_ h2
    split
    · exact h1
    · exact h1.trans (names.fail _ _ _)
theorem ceq_names : ∀ (l : List Expr) (cs : CS), names cs (ceq l cs).2
  | [], cs => names.refl cs
  | e :: l, cs => by
    rw [ceq]
    exact (cexpr_names e cs).trans (cargs_names l _ _)
end
theorem cexpr_pos (e : Expr) (cs : CS) (h : cs.ok) : (cexpr e cs).2.2.ft = none → 0 < (cexpr e cs).1 := by
  cases e with
  | mk k n s a p =>
    unfold cexpr
    repeat' split
    all_goals first
      | (intro _; dsimp only; omega; done)
      | (rename_i v hv; intro _; obtain ⟨e', h1, _, h3⟩ := getM_mem hv; have := h.kpos e' h1; dsimp only; omega)
      | (intro hf; exfalso; dsimp only at hf; unfold CS.fail at hf; split at hf
         · cases hf
         · rename_i hn; rw [hf] at hn; exact hn rfl)
theorem clet_names : ∀ (l : List Expr) (k n : Int) (cs : CS), names cs (clet l k n cs).2.2
  | [], k, n, cs => names.refl cs
  | e :: l, k, n, cs => by rw [clet]; exact (cexpr_names e cs).trans (clet_names l _ _ _)
theorem clet_pos : ∀ (l : List Expr) (k n : Int) (cs : CS), cs.ok → (l ≠ [] ∨ (cs.ft = none → 0 < k)) → (clet l k n cs).2.2.ft = none → 0 < (clet l k n cs).1
  | [], k, n, cs, h, hk, hf => by
    rcases hk with hk | hk
    · exact absurd rfl hk
    · exact hk hf
  | e :: l, k, n, cs, h, hk, hf => by
    rw [clet] at hf ⊢
    exact clet_pos l _ _ _ (h.names (cexpr_names e cs)) (.inr (cexpr_pos e cs h)) hf
theorem clet_le : ∀ (l : List Expr) (k n : Int) (cs : CS), 0 ≤ n → 0 ≤ (clet l k n cs).2.1 ∧ (clet l k n cs).2.1 ≤ n + szs l
  | [], k, n, cs, h => by simp [clet, szs, h]
  | e :: l, k, n, cs, h => by
    rw [clet, szs]
    have h1 := cexpr_le e cs
    have h2 := clet_le l (cexpr e cs).1 (cexpr e cs).2.1 (cexpr e cs).2.2 h1.1
    omega
theorem getM_app {s : Bytes} : ∀ {l : List Ent} {x : Ent}, getM s (l ++ [x]) = none ↔ getM s l = none ∧ s ≠ x.1
  | [], x => by simp only [List.nil_append, getM, true_and]; split <;> simp_all
  | e :: l, x => by
    simp only [List.cons_append, getM]
    split
    · simp
    · exact getM_app
theorem CS.ok.declare {cs : CS} (h : cs.ok) (name : Bytes) {kind : Int} (hk : cs.ft = none → 0 < kind) (p : Int) : (cs.declare name kind p).ok := by
  unfold CS.declare
  split
  · exact h
  · rename_i hf
    split
    · exact h.names (names.fail _ _ _)
    · split
      · exact h.names (names.fail _ _ _)
      · rename_i h3
        have hk' : 0 < kind := hk (by cases hc : cs.ft <;> simp_all)
        refine ⟨?_, ?_, ?_, ?_, ?_, ?_⟩
        · intro e he; rcases List.mem_append.1 he with he | he
          · have := h.kb e he; dsimp only; omega
          · simp at he; subst he; dsimp only; omega
        · intro e he; rcases List.mem_append.1 he with he | he
          · have := h.ub e he; dsimp only; omega
          · simp at he; subst he; dsimp only; omega
        · intro e he; rcases List.mem_append.1 he with he | he
          · exact h.pos e he
          · simp at he; subst he; exact hk'
        · intro s hs
          dsimp only at hs ⊢
          rw [getM_app] at hs ⊢
          exact ⟨h.sub s hs.1, hs.2⟩
        · intro e he; rcases List.mem_append.1 he with he | he
          · exact h.kpos e he
          · simp at he; subst he; exact hk'
        · dsimp only; simp; omega
theorem delM_sub {s : Bytes} : ∀ {l : List Ent} {e : Ent}, e ∈ delM s l → e ∈ l
  | [], e, h => by cases h
  | x :: l, e, h => by
    unfold delM at h
    split at h
    · exact List.mem_cons_of_mem _ h
    · cases h with
      | head => exact List.mem_cons_self ..
      | tail _ h => exact List.mem_cons_of_mem _ (delM_sub h)
theorem delM_get {s t : Bytes} : ∀ {l : List Ent}, getM t l = none → getM t (delM s l) = none
  | [], h => rfl
  | x :: l, h => by
    unfold getM at h
    split at h
    · cases h
    · rename_i hx
      unfold delM
      split
      · exact h
      · unfold getM; rw [if_neg hx]; exact delM_get h
theorem CS.ok.del {cs : CS} (h : cs.ok) (s : Bytes) : CS.ok { cs with kn := delM s cs.kn } :=
  ⟨fun e he => h.kb e (delM_sub he), h.ub, h.pos, fun t ht => delM_get (h.sub t ht), fun e he => h.kpos e (delM_sub he), h.ul⟩
theorem CS.ok.dels : ∀ {l : List Bytes} {cs : CS}, cs.ok → (cs.dels l).ok
  | [], cs, h => h
  | s :: l, cs, h => by rw [CS.dels]; exact CS.ok.dels (h.del s)
theorem names_changes (cs : CS) (k : Int) : names cs (cs.changes k) := by
  unfold CS.changes; dsimp only; split <;> exact ⟨rfl, rfl, rfl, rfl, id⟩
mutual
theorem cstmt_ok : ∀ (s : Stmt) (cs : CS), cs.ok → fineT s → (cstmt s cs).2.ok
  | .mk k s x n b e p, cs, h, hf => by
    unfold fineT at hf
    unfold cstmt
    split
    · exact (h.names (clet_names x 0 0 cs)).declare s (clet_pos x 0 0 cs h (.inl (hf.2.1 (by assumption)))) p
    · split
      · exact cloop_ok e [] 0 _ (cloop_ok b [] 0 _ (h.names (cargs_names x 2 cs)) hf.2.2.1) hf.2.2.2
      · split
        · have hd := h.declare s (kind := 1) (fun _ => by decide) p
          split
          · exact hd.names (names.fail _ _ _)
          · exact cloop_ok b [s] 0 _ hd hf.2.2.1
        · exact h.names ((names_changes cs k).trans (cargs_names x 1 _))
theorem cloop_ok : ∀ (l : List Stmt) (also : List Bytes) (n : Int) (cs : CS), cs.ok → fineTs l → (cloop l also n cs).2.ok
  | [], also, n, cs, h, _ => h.dels
  | s :: l, also, n, cs, h, hf => by
    unfold fineTs at hf
    unfold cloop
    have h1 := cstmt_ok s cs h hf.1
    split
    · exact h1
    · exact cloop_ok l _ _ _ h1 hf.2
end
mutual
theorem cstmt_le : ∀ (s : Stmt) (cs : CS), fineT s → 0 ≤ (cstmt s cs).1 ∧ (cstmt s cs).1 ≤ 140000 * (szT s : Int)
  | .mk k s x n b e p, cs, hf => by
    unfold fineT at hf
    unfold cstmt szT
    have hx := clet_le x 0 0 cs (by omega)
    have ha := fun k cs => cargs_le x k cs
    have hb := fun also cs => cloop_le b also 0 cs hf.2.2.1 (by omega)
    have he := fun also cs => cloop_le e also 0 cs hf.2.2.2 (by omega)
    split
    · dsimp only; omega
    · split
      · have h1 := ha 2 cs
        have h2 := hb [] (cargs x 2 cs).2
        have h3 := he [] (cloop b [] 0 (cargs x 2 cs).2).2
        dsimp only
        split <;> omega
      · split
        · split
          · dsimp only; omega
          · rename_i hn
            have h2 := hb [s] (cs.declare s 1 p)
            dsimp only
            generalize (cloop b [s] 0 (cs.declare s 1 p)).1 = q at h2 ⊢
            have hn0 := hf.1
            have hm : (if 2049 < 1 + q then 2049 else 1 + q) ≤ 2049 ∧ 0 ≤ (if 2049 < 1 + q then 2049 else 1 + q) := by split <;> omega
            generalize (if 2049 < 1 + q then 2049 else 1 + q) = z at hm ⊢
            have h5 : n * z ≤ 64 * 2049 := Int.mul_le_mul (by omega) hm.1 hm.2 (by omega)
            have h6 : 0 ≤ n * z := Int.mul_nonneg hn0 hm.2
            omega
        · have h1 := ha 1 (cs.changes k)
          dsimp only; omega
theorem cloop_le : ∀ (l : List Stmt) (also : List Bytes) (n : Int) (cs : CS), fineTs l → 0 ≤ n → 0 ≤ (cloop l also n cs).1 ∧ (cloop l also n cs).1 ≤ n + 140000 * (szt l : Int)
  | [], also, n, cs, _, h => by simp only [cloop, szt]; omega
  | s :: l, also, n, cs, hf, h => by
    unfold fineTs at hf
    unfold cloop szt
    have h1 := cstmt_le s cs hf.1
    split
    · dsimp only; omega
    · have h2 := cloop_le l (if s.k = 1 then also ++ [s.s] else also) (n + (cstmt s cs).1) (cstmt s cs).2 hf.2 (by omega)
      omega
end
end Go.Proofs.Ytphjldhdnmoolaa.A
/- The walks of some functions over the abstract machine. -/
namespace Go.Proofs.Ytphjldhdnmoolaa.A
open Go
theorem DropW.ckR (B : List IObj) (cs cs' : CS) (R X : List IObj) (R0 R1 R2 : List Nat) (h3 : R0.length ≤ R1.length) (h4 : R2.take R1.length = R1) : DropW ⟨CM B cs R, R0⟩ (B.length + (R.length + 3)) R1.length ⟨CM B cs' (R ++ X), R2⟩ ⟨CM B cs' R, R1⟩ := by
  have h := DropW.ck B cs cs' R X R0 []
  exact ⟨h.objs, h4.symm, h.lo, h3, fun o x hx hl => by
    rcases h.np o x hx hl with h0 | h0
    · exact .inl h0
    · simp only [CM] at hx
      by_cases h1 : o < B.length
      · left; rw [List.getElem?_append_left h1] at hx; simp only [CM]; rw [List.getElem?_append_left h1]; exact hx
      · rw [List.getElem?_append_right (by omega)] at hx
        generalize hk : o - B.length = k at hx
        match k, hx with
        | 0, hx => right; simp at hx; subst hx; rfl
        | 1, hx => right; simp at hx; subst hx; rfl
        | 2, hx => right; simp at hx; subst hx; simp [IObj.np, npL, IV.np, np_ft] <;> omega
        | k + 3, hx =>
          left
          simp only [CM]
          rw [List.getElem?_append_right (by omega), hk]
          simp only [List.getElem?_cons_succ] at hx ⊢
          rw [List.getElem?_append_left (by omega)] at hx
          exact hx⟩
set_option maxRecDepth 100000 in
set_option maxHeartbeats 4000000 in
theorem changes_sim (cs : CS) (kind : Int) : SimC 98 [ii kind] cs (.tup []) (cs.changes kind) := by
  intro B R rw_
  refine Sim.ofS 28 [] Try.func98 rfl rfl rfl (by simp) fun wr => ?_
  simp only [go_sem, Nat.reduceEqDiff, Nat.reduceBEq, Int.reduceToNat, Int.reduceLT, Int.reduceLE, Int.reduceEq, Nat.reduceLeDiff, Nat.reduceLT, Nat.reduceMul, Nat.reduceAdd, String.reduceEq]
  by_cases k3 : kind = 3
  · have k4 : ¬ kind = 4 := by omega
    have k2 : ¬ kind = 2 := by omega
    have hgo : cs.changes kind = { cs with md := if cs.md < 2 then 2 else cs.md } := by simp [CS.changes, k3]
    refine TS.of [] fun Q hQ => ?_
    simp only [go_sem, Nat.reduceEqDiff, Nat.reduceBEq, Int.reduceToNat, Int.reduceLT, Int.reduceLE, Int.reduceEq, Nat.reduceLeDiff, Nat.reduceLT, Nat.reduceMul, Nat.reduceAdd, String.reduceEq, k3]
    refine hQ .normal _ ?_; exact post_end _ _ (.tup []) (by simp only [go_sem, Nat.reduceEqDiff, Nat.reduceBEq, Int.reduceToNat, Int.reduceLT, Int.reduceLE, Int.reduceEq, Nat.reduceLeDiff, Nat.reduceLT, Nat.reduceMul, Nat.reduceAdd, String.reduceEq]) rfl (DropW.ck0 B cs ({ cs with md := if cs.md < 2 then 2 else cs.md }) R rw_) ⟨rfl, by rw [hgo]⟩
  · by_cases k4 : kind = 4
    · have hgo : cs.changes kind = { cs with md := if cs.md < 2 then 2 else cs.md } := by simp [CS.changes, k4]
      refine TS.of [] fun Q hQ => ?_
      simp only [go_sem, Nat.reduceEqDiff, Nat.reduceBEq, Int.reduceToNat, Int.reduceLT, Int.reduceLE, Int.reduceEq, Nat.reduceLeDiff, Nat.reduceLT, Nat.reduceMul, Nat.reduceAdd, String.reduceEq, k4]
      refine hQ .normal _ ?_; exact post_end _ _ (.tup []) (by simp only [go_sem, Nat.reduceEqDiff, Nat.reduceBEq, Int.reduceToNat, Int.reduceLT, Int.reduceLE, Int.reduceEq, Nat.reduceLeDiff, Nat.reduceLT, Nat.reduceMul, Nat.reduceAdd, String.reduceEq]) rfl (DropW.ck0 B cs ({ cs with md := if cs.md < 2 then 2 else cs.md }) R rw_) ⟨rfl, by rw [hgo]⟩
    · by_cases k2 : kind = 2
      · have hgo : cs.changes kind = { cs with md := if cs.md < 3 then 3 else cs.md, tn := false } := by simp [CS.changes, k2]
        refine TS.of [] fun Q hQ => ?_
        simp only [go_sem, Nat.reduceEqDiff, Nat.reduceBEq, Int.reduceToNat, Int.reduceLT, Int.reduceLE, Int.reduceEq, Nat.reduceLeDiff, Nat.reduceLT, Nat.reduceMul, Nat.reduceAdd, String.reduceEq, k2]
        refine hQ .normal _ ?_; exact post_end _ _ (.tup []) (by simp only [go_sem, Nat.reduceEqDiff, Nat.reduceBEq, Int.reduceToNat, Int.reduceLT, Int.reduceLE, Int.reduceEq, Nat.reduceLeDiff, Nat.reduceLT, Nat.reduceMul, Nat.reduceAdd, String.reduceEq]) rfl (DropW.ck0 B cs ({ cs with md := if cs.md < 3 then 3 else cs.md, tn := false }) R rw_) ⟨rfl, by rw [hgo]⟩
      · have hgo : cs.changes kind = { cs with md := if cs.md < 3 then 3 else cs.md } := by simp [CS.changes, k2, k3, k4]
        refine TS.of [] fun Q hQ => ?_
        simp only [go_sem, Nat.reduceEqDiff, Nat.reduceBEq, Int.reduceToNat, Int.reduceLT, Int.reduceLE, Int.reduceEq, Nat.reduceLeDiff, Nat.reduceLT, Nat.reduceMul, Nat.reduceAdd, String.reduceEq, k2, k3, k4]
        refine hQ .normal _ ?_; exact post_end _ _ (.tup []) (by simp only [go_sem, Nat.reduceEqDiff, Nat.reduceBEq, Int.reduceToNat, Int.reduceLT, Int.reduceLE, Int.reduceEq, Nat.reduceLeDiff, Nat.reduceLT, Nat.reduceMul, Nat.reduceAdd, String.reduceEq]) rfl (DropW.ck0 B cs ({ cs with md := if cs.md < 3 then 3 else cs.md }) R rw_) ⟨rfl, by rw [hgo]⟩
set_option maxRecDepth 100000 in
set_option maxHeartbeats 4000000 in
theorem numbers_sim (s : Stmt) (cs : CS) (hN : szs s.x < 800000) : SimC 99 [.agg (encT s)] cs (ii (cargs s.x 1 cs).1) (cargs s.x 1 cs).2 := by
  intro B R rw_
  refine Sim.ofS 22 [.tmp 4] Try.func99 rfl rfl rfl (by simp) fun wr => ?_
  simp only [go_sem, Nat.reduceEqDiff, Nat.reduceBEq, Int.reduceToNat, Int.reduceLT, Int.reduceLE, Int.reduceEq, Nat.reduceLeDiff, Nat.reduceLT, Nat.reduceMul, Nat.reduceAdd, String.reduceEq]
  have hll := szs_len s.x
  refine TS.seq (TS.of [3] fun Q hQ => ?_)
  simp only [go_sem, Nat.reduceEqDiff, Nat.reduceBEq, Int.reduceToNat, Int.reduceLT, Int.reduceLE, Int.reduceEq, Nat.reduceLeDiff, Nat.reduceLT, Nat.reduceMul, Nat.reduceAdd, String.reduceEq, encT_eq]
  refine hQ .normal _ ?_; clear hQ Q
  refine TS.seq (TS.of [] fun Q hQ => ?_)
  simp only [go_sem, Nat.reduceEqDiff, Nat.reduceBEq, Int.reduceToNat, Int.reduceLT, Int.reduceLE, Int.reduceEq, Nat.reduceLeDiff, Nat.reduceLT, Nat.reduceMul, Nat.reduceAdd, String.reduceEq]
  refine hQ .normal _ ?_; clear hQ Q
  refine TS.seq (TS.seq (TS.of [] fun Q hQ => ?_))
  simp only [go_sem, Nat.reduceEqDiff, Nat.reduceBEq, Int.reduceToNat, Int.reduceLT, Int.reduceLE, Int.reduceEq, Nat.reduceLeDiff, Nat.reduceLT, Nat.reduceMul, Nat.reduceAdd, String.reduceEq]
  refine hQ .normal _ ?_; clear hQ Q
  refine TS.block (TS.loop (α := Nat × Int × CS) (fun x => [(0, .ptr (B.length + 2) 0), (5, ii x.2.1), (9, slE s.x), (10, ii s.x.length), (11, ii x.1)]) (fun x => ⟨CM B x.2.2 R, rw_⟩) (fun x => x.1 ≤ s.x.length ∧ 0 ≤ x.2.1 ∧ x.2.1 + szs (s.x.drop x.1) ≤ szs s.x ∧ x.2.1 + (cargs (s.x.drop x.1) 1 x.2.2).1 = (cargs s.x 1 cs).1 ∧ (cargs (s.x.drop x.1) 1 x.2.2).2 = (cargs s.x 1 cs).2) (fun x => s.x.length - x.1) (0, 0, cs) (by simp) ⟨by simp [Has, upd_apply, argsT], rfl, by simp⟩ ?_)
  rintro ⟨k, n, c1⟩ st hH hm ⟨hk, hn0, hn1, hc1, hc2⟩
  dsimp only at hH hm hk hn0 hn1 hc1 hc2
  simp only [Has, List.mem_cons, List.not_mem_nil, or_false, forall_eq_or_imp, forall_eq] at hH; obtain ⟨i0, i5, i9, i10, i11⟩ := hH
  by_cases hlt : k < s.x.length
  · obtain ⟨x, hx⟩ : ∃ x, s.x[k]? = some x := ⟨_, List.getElem?_eq_getElem hlt⟩
    have hdr : s.x.drop k = x :: s.x.drop (k + 1) := by rw [List.drop_eq_getElem_cons hlt]; congr 1; exact Option.some.inj ((List.getElem?_eq_getElem hlt).symm.trans hx)
    have hat := encEs_at hx
    have hlt5 : k * 5 < (encEs s.x).length := by rw [encEs_length]; omega
    have hw := wrap_succ hlt (by omega)
    have hsz := szE_at hx
    rw [hdr, cargs_cons] at hc1 hc2
    rw [hdr, szs] at hn1
    have hcw : 0 ≤ (cwant x 1 c1).1 ∧ (cwant x 1 c1).1 ≤ szE x := cexpr_le x c1
    have hsub := (cwant_sim x 1 c1 (by omega)).mem B (R ++ [.cells (encE x)]) rw_
    rw [encE_eq] at hsub
    generalize cwant x 1 c1 = X at hc1 hc2 hsub hcw
    have hw2 : IntKind.i64.wrap (n + X.1) = n + X.1 := wrap_small (by omega) (by omega)
    refine TS.of [] fun Q hQ => ?_
    simp only [go_sem, Nat.reduceEqDiff, Nat.reduceBEq, Int.reduceToNat, Int.reduceLT, Int.reduceLE, Int.reduceEq, Nat.reduceLeDiff, Nat.reduceLT, Nat.reduceMul, Nat.reduceAdd, String.reduceEq, i0, i5, i9, i10, i11, hm, hlt, hat, hlt5]
    refine cal_eq hsub ?_
    simp only [go_sem, Nat.reduceEqDiff, Nat.reduceBEq, Int.reduceToNat, Int.reduceLT, Int.reduceLE, Int.reduceEq, Nat.reduceLeDiff, Nat.reduceLT, Nat.reduceMul, Nat.reduceAdd, String.reduceEq, i0, i5, i9, i10, i11, hw, hw2]
    refine hQ .normal _ ?_; clear hQ Q
    refine ⟨_, _, (k + 1, n + X.1, X.2), DropW.ckX B c1 X.2 R rw_ _, ?_, ⟨hlt, by dsimp only; omega, by dsimp only; omega, by dsimp only at hc1 ⊢; omega, hc2⟩, by dsimp only; omega⟩
    simp [upd_apply, i0, i9, i10, IV.np, np_sh, npEs] <;> omega
  · refine TS.of [] fun Q hQ => ?_
    simp only [go_sem, Nat.reduceEqDiff, Nat.reduceBEq, Int.reduceToNat, Int.reduceLT, Int.reduceLE, Int.reduceEq, Nat.reduceLeDiff, Nat.reduceLT, Nat.reduceMul, Nat.reduceAdd, String.reduceEq, i0, i5, i9, i10, i11, hm, hlt]
    refine hQ (.exit 0) _ ?_; clear hQ Q
    have : s.x.drop k = [] := List.drop_eq_nil_of_le (by omega)
    rw [this] at hc1 hc2
    simp only [cargs] at hc1 hc2
    refine TS.of [] fun Q hQ => ?_
    simp only [go_sem, Nat.reduceEqDiff, Nat.reduceBEq, Int.reduceToNat, Int.reduceLT, Int.reduceLE, Int.reduceEq, Nat.reduceLeDiff, Nat.reduceLT, Nat.reduceMul, Nat.reduceAdd, String.reduceEq, i0, i5, i9, i10, i11]
    refine hQ .ret _ ?_; exact post_ret _ _ (ii n) (by simp only [go_sem, Nat.reduceEqDiff, Nat.reduceBEq, Int.reduceToNat, Int.reduceLT, Int.reduceLE, Int.reduceEq, Nat.reduceLeDiff, Nat.reduceLT, Nat.reduceMul, Nat.reduceAdd, String.reduceEq]) rfl (DropW.ck0 B cs (c1) R rw_) ⟨by rw [show (cargs s.x 1 cs).1 = n by omega], by rw [hc2]⟩
def TC (N : Nat) : Prop := ∀ (s : Stmt) (cs : CS), szT s ≤ N → cs.ok → fineT s → SimC 82 [.agg (encT s)] cs (ii (cstmt s cs).1) (cstmt s cs).2
def BC (N : Nat) : Prop := ∀ (l : List Stmt) (also : List Bytes) (cs : CS), szt l ≤ N → cs.ok → fineTs l → also.length ≤ 1 → SimC 59 [slT l, .sl .full also.length (also.map (IV.v <| .string ·))] cs (ii (cloop l also 0 cs).1) (cloop l also 0 cs).2
def rowJ (rw_ : List Nat) (j n : Nat) : List Nat := if j = 0 then rw_ else rw_ ++ [n]
theorem rowJ_app (rw_ : List Nat) (j n : Nat) : app (rowJ rw_ j n) 9 n 1 (accK rw_.length 9 j) = some (accK rw_.length 9 (j + 1), rowJ rw_ (j + 1) (n + 1)) := by
  unfold app rowJ accK
  rw [if_neg (by decide)]
  by_cases h : j = 0
  · subst h; simp
  · simp [h]
theorem rowJ_len (rw_ : List Nat) (j n n' : Nat) : (rowJ rw_ j n).length ≤ (rowJ rw_ (j + 1) n').length := by
  unfold rowJ; split <;> simp
theorem rowJ_take (rw_ : List Nat) (j n : Nat) : (rowJ rw_ j n).take rw_.length = rw_ := by unfold rowJ; split <;> simp
theorem rowJ_np (rw_ : List Nat) (j n : Nat) : (accK rw_.length 9 j).np (rowJ rw_ j n).length = true := by
  unfold rowJ accK
  by_cases h : j = 0
  · simp [h, SK.np]
  · simp [h, SK.np]
set_option maxRecDepth 100000 in
set_option maxHeartbeats 4000000 in
theorem block_cstep {N : Nat} (hNb : N < 800000) (ih : TC N) : BC N := by
  intro l also cs hN hok hfine hal B R rw_
  refine Sim.ofS 50 [.tmp 6] Try.func59 rfl rfl rfl (by simp) fun wr => ?_
  simp only [go_sem, Nat.reduceEqDiff, Nat.reduceBEq, Int.reduceToNat, Int.reduceLT, Int.reduceLE, Int.reduceEq, Nat.reduceLeDiff, Nat.reduceLT, Nat.reduceMul, Nat.reduceAdd, String.reduceEq]
  have hll := szt_len l
  generalize htgt : cloop l also 0 cs = tgt
  refine TS.seq (TS.of [] fun Q hQ => ?_)
  simp only [go_sem, Nat.reduceEqDiff, Nat.reduceBEq, Int.reduceToNat, Int.reduceLT, Int.reduceLE, Int.reduceEq, Nat.reduceLeDiff, Nat.reduceLT, Nat.reduceMul, Nat.reduceAdd, String.reduceEq]
  refine hQ .normal _ ?_; clear hQ Q
  refine TS.seq (TS.of [] fun Q hQ => ?_)
  simp only [go_sem, Nat.reduceEqDiff, Nat.reduceBEq, Int.reduceToNat, Int.reduceLT, Int.reduceLE, Int.reduceEq, Nat.reduceLeDiff, Nat.reduceLT, Nat.reduceMul, Nat.reduceAdd, String.reduceEq]
  refine hQ .normal _ ?_; clear hQ Q
  refine TS.seq (TS.seq (TS.of [] fun Q hQ => ?_))
  simp only [go_sem, Nat.reduceEqDiff, Nat.reduceBEq, Int.reduceToNat, Int.reduceLT, Int.reduceLE, Int.reduceEq, Nat.reduceLeDiff, Nat.reduceLT, Nat.reduceMul, Nat.reduceAdd, String.reduceEq]
  refine hQ .normal _ ?_; clear hQ Q
  refine TS.block (TS.loop (α := Nat × Nat × List Bytes × Int × CS) (fun x => [(0, .ptr (B.length + 2) 0), (2, .sl (accK rw_.length 9 x.2.1) x.2.2.1.length (x.2.2.1.map (IV.v <| .string ·))), (7, ii x.2.2.2.1), (12, slT l), (13, ii l.length), (14, ii x.1)]) (fun x => ⟨CM B x.2.2.2.2 R, rowJ rw_ x.2.1 x.2.2.1.length⟩)
    (fun x => x.1 ≤ l.length ∧ x.2.2.2.2.ok ∧ fineTs (l.drop x.1) ∧ 0 ≤ x.2.2.2.1 ∧ x.2.2.2.1 + 140000 * (szt (l.drop x.1) : Int) ≤ 140000 * (szt l : Int) ∧ x.2.2.1.length ≤ x.1 + 1 ∧ cloop (l.drop x.1) x.2.2.1 x.2.2.2.1 x.2.2.2.2 = tgt) (fun x => l.length - x.1) (0, 0, also, 0, cs) (by simp) ⟨by simp [Has, upd_apply, argsT, accK], rfl, by simp [hok, hfine, hal, htgt]⟩ ?_)
  rintro ⟨k, j, al, n, c1⟩ st hH hm ⟨hk, hok1, hfi, hn0, hn1, hal1, hc⟩
  dsimp only at hH hm hk hok1 hfi hn0 hn1 hal1 hc
  simp only [Has, List.mem_cons, List.not_mem_nil, or_false, forall_eq_or_imp, forall_eq] at hH; obtain ⟨i0, i2, i7, i12, i13, i14⟩ := hH
  by_cases hlt : k < l.length
  · obtain ⟨x, hx⟩ : ∃ x, l[k]? = some x := ⟨_, List.getElem?_eq_getElem hlt⟩
    have hdr : l.drop k = x :: l.drop (k + 1) := by rw [List.drop_eq_getElem_cons hlt]; congr 1; exact Option.some.inj ((List.getElem?_eq_getElem hlt).symm.trans hx)
    have hat := encTs_at hx
    have hlt7 : k * 7 < (encTs l).length := by rw [encTs_length]; omega
    have hw := wrap_succ hlt (by omega)
    have hsz := szT_at hx
    rw [hdr, fineTs] at hfi
    rw [hdr, szt] at hn1
    rw [hdr, cloop] at hc
    have hle := cstmt_le x c1 hfi.1
    have hok2 := cstmt_ok x c1 hok1 hfi.1
    have hsub := (ih x c1 (by omega) hok1 hfi.1).mem B (R ++ [.cells (encT x)]) (rowJ rw_ j al.length)
    rw [encT_eq] at hsub
    generalize cstmt x c1 = X at hc hsub hle hok2
    have hw2 : IntKind.i64.wrap (n + X.1) = n + X.1 := wrap_small (by omega) (by omega)
    have happ := rowJ_app rw_ j al.length
    have hbound : (al.length + 1) * 16 ≤ 140737488355328 := by omega
    have hlen : (al.map (fun s => (IV.v (.string s)))).length = al.length := by simp
    by_cases k1 : x.k = 1
    · rw [if_pos k1] at hc
      cases hf : X.2.ft with
      | none =>
        rw [hf] at hc
        rw [if_neg (by simp)] at hc
        refine TS.of [] fun Q hQ => ?_
        simp only [go_sem, Nat.reduceEqDiff, Nat.reduceBEq, Int.reduceToNat, Int.reduceLT, Int.reduceLE, Int.reduceEq, Nat.reduceLeDiff, Nat.reduceLT, Nat.reduceMul, Nat.reduceAdd, String.reduceEq, i0, i2, i7, i12, i13, i14, hm, hlt, hat, hlt7]
        refine cal_eq hsub ?_
        simp only [go_sem, Nat.reduceEqDiff, Nat.reduceBEq, Int.reduceToNat, Int.reduceLT, Int.reduceLE, Int.reduceEq, Nat.reduceLeDiff, Nat.reduceLT, Nat.reduceMul, Nat.reduceAdd, String.reduceEq, i0, i2, i7, i12, i13, i14, hw, hw2, k1, happ, hbound, hlen, hf, ftI_none]
        refine hQ .normal _ ?_; clear hQ Q
        have hl1 : (al ++ [x.s] : List Bytes).length = al.length + 1 := by simp
        refine ⟨B.length + (R.length + 3), (rowJ rw_ (j + 1) (al.length + 1)).length, (k + 1, j + 1, al ++ [x.s], n + X.1, X.2), ?_, ?_, ⟨by dsimp only; omega, hok2, hfi.2, by dsimp only; omega, by dsimp only; omega, by dsimp only; rw [hl1]; omega, hc⟩, by dsimp only; omega⟩
        · dsimp only; rw [hl1]
          exact DropW.ckR B c1 X.2 R _ _ _ _ (rowJ_len _ _ _ _) (by simp)
        · dsimp only; rw [hl1]
          simp [upd_apply, i0, i12, i13, IV.np, np_sh, npTs, npS, rowJ_np, npL_app, npL] <;> omega
      | some p =>
        rw [hf, if_pos (by simp)] at hc
        refine TS.of [] fun Q hQ => ?_
        simp only [go_sem, Nat.reduceEqDiff, Nat.reduceBEq, Int.reduceToNat, Int.reduceLT, Int.reduceLE, Int.reduceEq, Nat.reduceLeDiff, Nat.reduceLT, Nat.reduceMul, Nat.reduceAdd, String.reduceEq, i0, i2, i7, i12, i13, i14, hm, hlt, hat, hlt7]
        refine cal_eq hsub ?_
        simp only [go_sem, Nat.reduceEqDiff, Nat.reduceBEq, Int.reduceToNat, Int.reduceLT, Int.reduceLE, Int.reduceEq, Nat.reduceLeDiff, Nat.reduceLT, Nat.reduceMul, Nat.reduceAdd, String.reduceEq, i0, i2, i7, i12, i13, i14, hw, hw2, k1, happ, hbound, hlen, hf, ftI_some]
        refine hQ .ret _ ?_; clear hQ Q
        exact post_ret _ _ (ii 0) (by simp only [upd_apply, res, resL, res1, IV.sh]; rfl) rfl (DropW.ckR B cs X.2 R [_] rw_ rw_ (rowJ rw_ (j + 1) (al.length + 1)) (Nat.le_refl _) (rowJ_take _ _ _)) ⟨by rw [← hc], by rw [← hc]⟩
    · rw [if_neg k1] at hc
      cases hf : X.2.ft with
      | none =>
        rw [hf] at hc
        rw [if_neg (by simp)] at hc
        refine TS.of [] fun Q hQ => ?_
        simp only [go_sem, Nat.reduceEqDiff, Nat.reduceBEq, Int.reduceToNat, Int.reduceLT, Int.reduceLE, Int.reduceEq, Nat.reduceLeDiff, Nat.reduceLT, Nat.reduceMul, Nat.reduceAdd, String.reduceEq, i0, i2, i7, i12, i13, i14, hm, hlt, hat, hlt7]
        refine cal_eq hsub ?_
        simp only [go_sem, Nat.reduceEqDiff, Nat.reduceBEq, Int.reduceToNat, Int.reduceLT, Int.reduceLE, Int.reduceEq, Nat.reduceLeDiff, Nat.reduceLT, Nat.reduceMul, Nat.reduceAdd, String.reduceEq, i0, i2, i7, i12, i13, i14, hw, hw2, k1, happ, hbound, hlen, hf, ftI_none]
        refine hQ .normal _ ?_; clear hQ Q
        refine ⟨B.length + (R.length + 3), (rowJ rw_ j al.length).length, (k + 1, j, al, n + X.1, X.2), DropW.ckR B c1 X.2 R [_] _ _ _ (Nat.le_refl _) (by simp), ?_, ⟨by dsimp only; omega, hok2, hfi.2, by dsimp only; omega, by dsimp only; omega, by dsimp only; omega, hc⟩, by dsimp only; omega⟩
        simp [upd_apply, i0, i2, i12, i13, IV.np, np_sh, npTs, npS, rowJ_np] <;> omega
      | some p =>
        rw [hf, if_pos (by simp)] at hc
        refine TS.of [] fun Q hQ => ?_
        simp only [go_sem, Nat.reduceEqDiff, Nat.reduceBEq, Int.reduceToNat, Int.reduceLT, Int.reduceLE, Int.reduceEq, Nat.reduceLeDiff, Nat.reduceLT, Nat.reduceMul, Nat.reduceAdd, String.reduceEq, i0, i2, i7, i12, i13, i14, hm, hlt, hat, hlt7]
        refine cal_eq hsub ?_
        simp only [go_sem, Nat.reduceEqDiff, Nat.reduceBEq, Int.reduceToNat, Int.reduceLT, Int.reduceLE, Int.reduceEq, Nat.reduceLeDiff, Nat.reduceLT, Nat.reduceMul, Nat.reduceAdd, String.reduceEq, i0, i2, i7, i12, i13, i14, hw, hw2, k1, happ, hbound, hlen, hf, ftI_some]
        refine hQ .ret _ ?_; clear hQ Q
        exact post_ret _ _ (ii 0) (by simp only [upd_apply, res, resL, res1, IV.sh]; rfl) rfl (DropW.ckR B cs X.2 R [_] rw_ rw_ (rowJ rw_ j al.length) (Nat.le_refl _) (rowJ_take _ _ _)) ⟨by rw [← hc], by rw [← hc]⟩
  · have : l.drop k = [] := List.drop_eq_nil_of_le (by omega)
    rw [this, cloop] at hc
    refine TS.of [] fun Q hQ => ?_
    simp only [go_sem, Nat.reduceEqDiff, Nat.reduceBEq, Int.reduceToNat, Int.reduceLT, Int.reduceLE, Int.reduceEq, Nat.reduceLeDiff, Nat.reduceLT, Nat.reduceMul, Nat.reduceAdd, String.reduceEq, i0, i2, i7, i12, i13, i14, hm, hlt]
    refine hQ (.exit 0) _ ?_; clear hQ Q
    refine TS.seq (TS.seq (TS.of [] fun Q hQ => ?_))
    simp only [go_sem, Nat.reduceEqDiff, Nat.reduceBEq, Int.reduceToNat, Int.reduceLT, Int.reduceLE, Int.reduceEq, Nat.reduceLeDiff, Nat.reduceLT, Nat.reduceMul, Nat.reduceAdd, String.reduceEq, i0, i2, i7, i12, i13, i14]
    refine hQ .normal _ ?_; clear hQ Q
    refine TS.block (TS.loop (α := Nat × CS) (fun x => [(0, .ptr (B.length + 2) 0), (7, ii n), (37, .sl (accK rw_.length 9 j) al.length (al.map (IV.v <| .string ·))), (38, ii al.length), (39, ii x.1)]) (fun x => ⟨CM B x.2 R, rowJ rw_ j al.length⟩) (fun x => x.1 ≤ al.length ∧ (n, x.2.dels (al.drop x.1)) = tgt) (fun x => al.length - x.1) (0, c1) (by simp) ⟨by simp [Has, upd_apply, i0, i7], rfl, by simp [hc]⟩ ?_)
    rintro ⟨q, c2⟩ s2 hH hm2 ⟨hq, hc2⟩
    dsimp only at hH hm2 hq hc2
    simp only [Has, List.mem_cons, List.not_mem_nil, or_false, forall_eq_or_imp, forall_eq] at hH; obtain ⟨j0, j7, j37, j38, j39⟩ := hH
    by_cases hql : q < al.length
    · obtain ⟨x, hx⟩ : ∃ x, al[q]? = some x := ⟨_, List.getElem?_eq_getElem hql⟩
      have hdr : al.drop q = x :: al.drop (q + 1) := by rw [List.drop_eq_getElem_cons hql]; congr 1; exact Option.some.inj ((List.getElem?_eq_getElem hql).symm.trans hx)
      have hat : (al.map (fun s => (IV.v (.string s)))).drop q = ss x :: (al.drop (q + 1)).map (fun s => (IV.v (.string s))) := by rw [← List.map_drop, hdr]; rfl
      have hlt1 : q < (al.map (fun s => (IV.v (.string s)))).length := by simpa using hql
      have hw := wrap_succ hql (by omega)
      rw [hdr, CS.dels] at hc2
      refine TS.of [] fun Q hQ => ?_
      simp only [go_sem, Nat.reduceEqDiff, Nat.reduceBEq, Int.reduceToNat, Int.reduceLT, Int.reduceLE, Int.reduceEq, Nat.reduceLeDiff, Nat.reduceLT, Nat.reduceMul, Nat.reduceAdd, String.reduceEq, j0, j7, j37, j38, j39, hm2, hql, hat, hlt1, hw, Mem.map_, mlook_enc, mdel_enc]
      refine hQ .normal _ ?_; clear hQ Q
      refine ⟨B.length + (R.length + 3), (rowJ rw_ j al.length).length, (q + 1, { c2 with kn := delM x c2.kn }), ?_, ?_, ⟨by dsimp only; omega, hc2⟩, by dsimp only; omega⟩
      · have := DropW.ckR B c2 { c2 with kn := delM x c2.kn } R [] (rowJ rw_ j al.length) (rowJ rw_ j al.length) (rowJ rw_ j al.length) (Nat.le_refl _) (by simp)
        rw [List.append_nil] at this
        exact this
      · simp [upd_apply, j0, j7, j37, j38, IV.np, npS, rowJ_np] <;> omega
    · have : al.drop q = [] := List.drop_eq_nil_of_le (by omega)
      rw [this, CS.dels] at hc2
      refine TS.of [] fun Q hQ => ?_
      simp only [go_sem, Nat.reduceEqDiff, Nat.reduceBEq, Int.reduceToNat, Int.reduceLT, Int.reduceLE, Int.reduceEq, Nat.reduceLeDiff, Nat.reduceLT, Nat.reduceMul, Nat.reduceAdd, String.reduceEq, j0, j7, j37, j38, j39, hm2, hql]
      refine hQ (.exit 2) _ ?_; clear hQ Q
      refine TS.of [] fun Q hQ => ?_
      simp only [go_sem, Nat.reduceEqDiff, Nat.reduceBEq, Int.reduceToNat, Int.reduceLT, Int.reduceLE, Int.reduceEq, Nat.reduceLeDiff, Nat.reduceLT, Nat.reduceMul, Nat.reduceAdd, String.reduceEq, j0, j7, j37, j38, j39, hm2]
      refine hQ .ret _ ?_; clear hQ Q
      have hdw := DropW.ckR B cs c2 R [] rw_ rw_ (rowJ rw_ j al.length) (Nat.le_refl _) (rowJ_take _ _ _)
      rw [List.append_nil] at hdw
      exact post_ret _ _ (ii n) (by simp only [upd_apply, res, resL, res1, IV.sh]; rfl) rfl hdw ⟨by rw [← hc2], by rw [← hc2]⟩
end Go.Proofs.Ytphjldhdnmoolaa.A
/- The walks of some functions over the abstract machine. -/
namespace Go.Proofs.Ytphjldhdnmoolaa.A
open Go
set_option maxRecDepth 100000 in
set_option maxHeartbeats 4000000 in
theorem stmt_cstep {N : Nat} (hNb : N < 800000) (ih : ∀ M, M < N → BC M) : TC N := by
  intro s cs hN hok hfine B R rw_
  have hsz := szT_eq s
  have hll := szs_len s.x
  have hgo : cstmt s cs = cstmt s cs := rfl
  conv at hgo => rhs; rw [show s = .mk s.k s.s s.x s.n s.b s.e s.p by cases s; rfl]; unfold cstmt
  have hfi : 0 ≤ s.n ∧ (s.k = 1 → s.x ≠ []) ∧ fineTs s.b ∧ fineTs s.e := by
    have h := hfine
    rw [show s = .mk s.k s.s s.x s.n s.b s.e s.p by cases s; rfl] at h
    unfold fineT at h
    exact h
  obtain ⟨hf1, hf2, hf3, hf4⟩ := hfi
  refine Sim.ofS 102 [.tmp 4] Try.func82 rfl rfl rfl (by simp) fun wr => ?_
  simp only [go_sem, Nat.reduceEqDiff, Nat.reduceBEq, Int.reduceToNat, Int.reduceLT, Int.reduceLE, Int.reduceEq, Nat.reduceLeDiff, Nat.reduceLT, Nat.reduceMul, Nat.reduceAdd, String.reduceEq]
  refine TS.seq (TS.of [3] fun Q hQ => ?_)
  simp only [go_sem, Nat.reduceEqDiff, Nat.reduceBEq, Int.reduceToNat, Int.reduceLT, Int.reduceLE, Int.reduceEq, Nat.reduceLeDiff, Nat.reduceLT, Nat.reduceMul, Nat.reduceAdd, String.reduceEq, encT_eq]
  refine hQ .normal _ ?_; clear hQ Q
  refine TS.seq (TS.seq (TS.of [] fun Q hQ => ?_))
  simp only [go_sem, Nat.reduceEqDiff, Nat.reduceBEq, Int.reduceToNat, Int.reduceLT, Int.reduceLE, Int.reduceEq, Nat.reduceLeDiff, Nat.reduceLT, Nat.reduceMul, Nat.reduceAdd, String.reduceEq]
  refine hQ .normal _ ?_; clear hQ Q
  refine TS.block (TS.seq (TS.of [] fun Q hQ => ?_))
  by_cases k1 : s.k = 1
  · rw [if_pos k1] at hgo
    have hpos := clet_pos s.x 0 0 cs hok (.inl (hf2 k1))
    have hcle := clet_le s.x 0 0 cs (by omega)
    have hcn := clet_names s.x 0 0 cs
    generalize hcl : clet s.x 0 0 cs = C at hgo hpos hcle hcn
    simp only [go_sem, Nat.reduceEqDiff, Nat.reduceBEq, Int.reduceToNat, Int.reduceLT, Int.reduceLE, Int.reduceEq, Nat.reduceLeDiff, Nat.reduceLT, Nat.reduceMul, Nat.reduceAdd, String.reduceEq, k1]
    refine hQ .normal _ ?_; clear hQ Q
    refine TS.cond (t := true) (by simp only [go_sem, Nat.reduceEqDiff, Nat.reduceBEq, Int.reduceToNat, Int.reduceLT, Int.reduceLE, Int.reduceEq, Nat.reduceLeDiff, Nat.reduceLT, Nat.reduceMul, Nat.reduceAdd, String.reduceEq, k1]) ?_
    refine TS.seq (TS.of [] fun Q hQ => ?_)
    simp only [go_sem, Nat.reduceEqDiff, Nat.reduceBEq, Int.reduceToNat, Int.reduceLT, Int.reduceLE, Int.reduceEq, Nat.reduceLeDiff, Nat.reduceLT, Nat.reduceMul, Nat.reduceAdd, String.reduceEq, k1]
    refine hQ .normal _ ?_; clear hQ Q
    refine TS.seq (TS.seq (TS.of [] fun Q hQ => ?_))
    simp only [go_sem, Nat.reduceEqDiff, Nat.reduceBEq, Int.reduceToNat, Int.reduceLT, Int.reduceLE, Int.reduceEq, Nat.reduceLeDiff, Nat.reduceLT, Nat.reduceMul, Nat.reduceAdd, String.reduceEq, k1]
    refine hQ .normal _ ?_; clear hQ Q
    refine TS.block (TS.loop (α := Nat × Int × Int × CS) (fun x => [(0, .ptr (B.length + 2) 0), (3, .ref [ii 1, ss s.s, slE s.x, ii s.n, slT s.b, slT s.e, ii s.p]), (5, ii x.2.1), (6, ii x.2.2.1), (17, slE s.x), (18, ii s.x.length), (19, ii x.1)]) (fun x => ⟨CM B x.2.2.2 R, rw_⟩) (fun x => x.1 ≤ s.x.length ∧ clet (s.x.drop x.1) x.2.1 x.2.2.1 x.2.2.2 = C) (fun x => s.x.length - x.1) (0, 0, 0, cs) (by simp) ⟨by simp [Has, upd_apply, argsT, k1], rfl, by simp [hcl]⟩ ?_)
    rintro ⟨k, a, n, c1⟩ st hH hm ⟨hk, hc⟩
    dsimp only at hH hm hk hc
    simp only [Has, List.mem_cons, List.not_mem_nil, or_false, forall_eq_or_imp, forall_eq] at hH; obtain ⟨i0, i3, i5, i6, i17, i18, i19⟩ := hH
    by_cases hlt : k < s.x.length
    · obtain ⟨x, hx⟩ : ∃ x, s.x[k]? = some x := ⟨_, List.getElem?_eq_getElem hlt⟩
      have hdr : s.x.drop k = x :: s.x.drop (k + 1) := by rw [List.drop_eq_getElem_cons hlt]; congr 1; exact Option.some.inj ((List.getElem?_eq_getElem hlt).symm.trans hx)
      have hat := encEs_at hx
      have hlt5 : k * 5 < (encEs s.x).length := by rw [encEs_length]; omega
      have hw := wrap_succ hlt (by omega)
      have hszx := szE_at hx
      rw [hdr, clet] at hc
      have hsub := (cexpr_sim x c1 (by omega)).mem B (R ++ [.cells (encE x)]) rw_
      rw [encE_eq] at hsub
      generalize cexpr x c1 = X at hc hsub
      refine TS.of [] fun Q hQ => ?_
      simp only [go_sem, Nat.reduceEqDiff, Nat.reduceBEq, Int.reduceToNat, Int.reduceLT, Int.reduceLE, Int.reduceEq, Nat.reduceLeDiff, Nat.reduceLT, Nat.reduceMul, Nat.reduceAdd, String.reduceEq, i0, i3, i5, i6, i17, i18, i19, hm, hlt, hat, hlt5]
      refine cal_eq hsub ?_
      simp only [go_sem, Nat.reduceEqDiff, Nat.reduceBEq, Int.reduceToNat, Int.reduceLT, Int.reduceLE, Int.reduceEq, Nat.reduceLeDiff, Nat.reduceLT, Nat.reduceMul, Nat.reduceAdd, String.reduceEq, i0, i3, i5, i6, i17, i18, i19, hw]
      refine hQ .normal _ ?_; clear hQ Q
      refine ⟨_, _, (k + 1, X.1, X.2.1, X.2.2), DropW.ckX B c1 X.2.2 R rw_ _, ?_, ⟨hlt, hc⟩, by dsimp only; omega⟩
      simp [upd_apply, i0, i3, i17, i18, IV.np, np_sh, npEs, npTs, npL] <;> omega
    · refine TS.of [] fun Q hQ => ?_
      simp only [go_sem, Nat.reduceEqDiff, Nat.reduceBEq, Int.reduceToNat, Int.reduceLT, Int.reduceLE, Int.reduceEq, Nat.reduceLeDiff, Nat.reduceLT, Nat.reduceMul, Nat.reduceAdd, String.reduceEq, i0, i3, i5, i6, i17, i18, i19, hm, hlt]
      refine hQ (.exit 1) _ ?_; clear hQ Q
      have : s.x.drop k = [] := List.drop_eq_nil_of_le (by omega)
      rw [this, clet] at hc
      subst hc
      dsimp only at hcle hcn
      have hw1 : IntKind.i64.wrap (1 + n) = 1 + n := wrap_small (by omega) (by omega)
      have hok1 : c1.ok := hok.names hcn
      refine TS.of [] fun Q hQ => ?_
      simp only [go_sem, Nat.reduceEqDiff, Nat.reduceBEq, Int.reduceToNat, Int.reduceLT, Int.reduceLE, Int.reduceEq, Nat.reduceLeDiff, Nat.reduceLT, Nat.reduceMul, Nat.reduceAdd, String.reduceEq, i0, i3, i5, i6, i17, i18, i19]
      refine cal_eq (declare_sim c1 hok1 (by have := hok1.ul; omega) s.s a s.p B R rw_) ?_
      simp only [go_sem, Nat.reduceEqDiff, Nat.reduceBEq, Int.reduceToNat, Int.reduceLT, Int.reduceLE, Int.reduceEq, Nat.reduceLeDiff, Nat.reduceLT, Nat.reduceMul, Nat.reduceAdd, String.reduceEq, i0, i3, i5, i6, i17, i18, i19, hw1]
      refine hQ .ret _ ?_; exact post_ret _ _ (ii (1 + n)) (by simp only [go_sem, Nat.reduceEqDiff, Nat.reduceBEq, Int.reduceToNat, Int.reduceLT, Int.reduceLE, Int.reduceEq, Nat.reduceLeDiff, Nat.reduceLT, Nat.reduceMul, Nat.reduceAdd, String.reduceEq]) rfl (DropW.ck0 B cs (c1.declare s.s a s.p) R rw_) ⟨by rw [hgo], by rw [hgo]⟩
  rw [if_neg k1] at hgo
  simp only [go_sem, Nat.reduceEqDiff, Nat.reduceBEq, Int.reduceToNat, Int.reduceLT, Int.reduceLE, Int.reduceEq, Nat.reduceLeDiff, Nat.reduceLT, Nat.reduceMul, Nat.reduceAdd, String.reduceEq, k1]
  refine hQ .normal _ ?_; clear hQ Q
  refine TS.cond (t := false) (by simp only [go_sem, Nat.reduceEqDiff, Nat.reduceBEq, Int.reduceToNat, Int.reduceLT, Int.reduceLE, Int.reduceEq, Nat.reduceLeDiff, Nat.reduceLT, Nat.reduceMul, Nat.reduceAdd, String.reduceEq, k1]) ?_
  refine TS.seq (TS.of [] fun Q hQ => ?_)
  by_cases k6 : s.k = 6
  · rw [if_pos k6] at hgo
    simp only [go_sem, Nat.reduceEqDiff, Nat.reduceBEq, Int.reduceToNat, Int.reduceLT, Int.reduceLE, Int.reduceEq, Nat.reduceLeDiff, Nat.reduceLT, Nat.reduceMul, Nat.reduceAdd, String.reduceEq, k6]
    refine hQ .normal _ ?_; clear hQ Q
    refine TS.cond (t := true) (by simp only [go_sem, Nat.reduceEqDiff, Nat.reduceBEq, Int.reduceToNat, Int.reduceLT, Int.reduceLE, Int.reduceEq, Nat.reduceLeDiff, Nat.reduceLT, Nat.reduceMul, Nat.reduceAdd, String.reduceEq, k6]) ?_
    refine TS.seq (TS.of [] fun Q hQ => ?_)
    simp only [go_sem, Nat.reduceEqDiff, Nat.reduceBEq, Int.reduceToNat, Int.reduceLT, Int.reduceLE, Int.reduceEq, Nat.reduceLeDiff, Nat.reduceLT, Nat.reduceMul, Nat.reduceAdd, String.reduceEq, k6]
    refine hQ .normal _ ?_; clear hQ Q
    generalize hca : cargs s.x 2 cs = C at hgo
    have hcle := cargs_le s.x 2 cs
    have hcn := cargs_names s.x 2 cs
    rw [hca] at hcle hcn
    refine TS.seq (TS.seq (TS.of [] fun Q hQ => ?_))
    simp only [go_sem, Nat.reduceEqDiff, Nat.reduceBEq, Int.reduceToNat, Int.reduceLT, Int.reduceLE, Int.reduceEq, Nat.reduceLeDiff, Nat.reduceLT, Nat.reduceMul, Nat.reduceAdd, String.reduceEq, k6]
    refine hQ .normal _ ?_; clear hQ Q
    refine TS.block (TS.loop (α := Nat × Int × CS) (fun x => [(0, .ptr (B.length + 2) 0), (3, .ref [ii 6, ss s.s, slE s.x, ii s.n, slT s.b, slT s.e, ii s.p]), (9, ii x.2.1), (42, slE s.x), (43, ii s.x.length), (44, ii x.1)]) (fun x => ⟨CM B x.2.2 R, rw_⟩) (fun x => x.1 ≤ s.x.length ∧ 0 ≤ x.2.1 ∧ x.2.1 + szs (s.x.drop x.1) ≤ 1 + szs s.x ∧ x.2.1 + (cargs (s.x.drop x.1) 2 x.2.2).1 = 1 + C.1 ∧ (cargs (s.x.drop x.1) 2 x.2.2).2 = C.2) (fun x => s.x.length - x.1) (0, 1, cs) (by simp) ⟨by simp [Has, upd_apply, argsT, k6], rfl, by simp [hca]⟩ ?_)
    rintro ⟨k, n, c1⟩ st hH hm ⟨hk, hn0, hn1, hc1, hc2⟩
    dsimp only at hH hm hk hn0 hn1 hc1 hc2
    simp only [Has, List.mem_cons, List.not_mem_nil, or_false, forall_eq_or_imp, forall_eq] at hH; obtain ⟨i0, i3, i9, i42, i43, i44⟩ := hH
    by_cases hlt : k < s.x.length
    · obtain ⟨x, hx⟩ : ∃ x, s.x[k]? = some x := ⟨_, List.getElem?_eq_getElem hlt⟩
      have hdr : s.x.drop k = x :: s.x.drop (k + 1) := by rw [List.drop_eq_getElem_cons hlt]; congr 1; exact Option.some.inj ((List.getElem?_eq_getElem hlt).symm.trans hx)
      have hat := encEs_at hx
      have hlt5 : k * 5 < (encEs s.x).length := by rw [encEs_length]; omega
      have hw := wrap_succ hlt (by omega)
      have hszx := szE_at hx
      rw [hdr, cargs_cons] at hc1 hc2
      rw [hdr, szs] at hn1
      have hcw : 0 ≤ (cwant x 2 c1).1 ∧ (cwant x 2 c1).1 ≤ szE x := cexpr_le x c1
      have hsub := (cwant_sim x 2 c1 (by omega)).mem B (R ++ [.cells (encE x)]) rw_
      rw [encE_eq] at hsub
      generalize cwant x 2 c1 = X at hc1 hc2 hsub hcw
      have hw2 : IntKind.i64.wrap (n + X.1) = n + X.1 := wrap_small (by omega) (by omega)
      refine TS.of [] fun Q hQ => ?_
      simp only [go_sem, Nat.reduceEqDiff, Nat.reduceBEq, Int.reduceToNat, Int.reduceLT, Int.reduceLE, Int.reduceEq, Nat.reduceLeDiff, Nat.reduceLT, Nat.reduceMul, Nat.reduceAdd, String.reduceEq, i0, i3, i9, i42, i43, i44, hm, hlt, hat, hlt5]
      refine cal_eq hsub ?_
      simp only [go_sem, Nat.reduceEqDiff, Nat.reduceBEq, Int.reduceToNat, Int.reduceLT, Int.reduceLE, Int.reduceEq, Nat.reduceLeDiff, Nat.reduceLT, Nat.reduceMul, Nat.reduceAdd, String.reduceEq, i0, i3, i9, i42, i43, i44, hw, hw2]
      refine hQ .normal _ ?_; clear hQ Q
      refine ⟨_, _, (k + 1, n + X.1, X.2), DropW.ckX B c1 X.2 R rw_ _, ?_, ⟨hlt, by dsimp only; omega, by dsimp only; omega, by dsimp only at hc1 ⊢; omega, hc2⟩, by dsimp only; omega⟩
      simp [upd_apply, i0, i3, i42, i43, IV.np, np_sh, npEs, npTs, npL] <;> omega
    · refine TS.of [] fun Q hQ => ?_
      simp only [go_sem, Nat.reduceEqDiff, Nat.reduceBEq, Int.reduceToNat, Int.reduceLT, Int.reduceLE, Int.reduceEq, Nat.reduceLeDiff, Nat.reduceLT, Nat.reduceMul, Nat.reduceAdd, String.reduceEq, i0, i3, i9, i42, i43, i44, hm, hlt]
      refine hQ (.exit 3) _ ?_; clear hQ Q
      have : s.x.drop k = [] := List.drop_eq_nil_of_le (by omega)
      rw [this] at hc1 hc2
      simp only [cargs] at hc1 hc2
      have hne : n = 1 + C.1 := by omega
      rw [← hc2, ← hne] at hgo
      have hok1 : c1.ok := by rw [hc2]; exact hok.names hcn
      have hs1 := (ih (szt s.b) (by omega) s.b [] c1 (Nat.le_refl _) hok1 hf3 (by simp)).mem B R rw_
      have hl1 := cloop_le s.b [] 0 c1 hf3 (by omega)
      have hok2 := cloop_ok s.b [] 0 c1 hok1 hf3
      generalize cloop s.b [] 0 c1 = X at hgo hs1 hl1 hok2
      have hs2 := (ih (szt s.e) (by omega) s.e [] X.2 (Nat.le_refl _) hok2 hf4 (by simp)).mem B R rw_
      have hl2 := cloop_le s.e [] 0 X.2 hf4 (by omega)
      generalize cloop s.e [] 0 X.2 = Y at hgo hs2 hl2
      have hw3 : IntKind.i64.wrap (n + (if X.1 < Y.1 then Y.1 else X.1)) = n + (if X.1 < Y.1 then Y.1 else X.1) := wrap_small (by split <;> omega) (by split <;> omega)
      refine TS.of [] fun Q hQ => ?_
      simp only [go_sem, Nat.reduceEqDiff, Nat.reduceBEq, Int.reduceToNat, Int.reduceLT, Int.reduceLE, Int.reduceEq, Nat.reduceLeDiff, Nat.reduceLT, Nat.reduceMul, Nat.reduceAdd, String.reduceEq, i0, i3, i9, i42, i43, i44]
      refine drn_of ⟨[57, 61], [], []⟩ [0, 0, 0, 4, 14, 0, 0, 64, 254, 510, 1023, 2047] (by kernel_rfl) ?_
      simp only [go_sem, Nat.reduceEqDiff, Nat.reduceBEq, Int.reduceToNat, Int.reduceLT, Int.reduceLE, Int.reduceEq, Nat.reduceLeDiff, Nat.reduceLT, Nat.reduceMul, Nat.reduceAdd, String.reduceEq, i0, i3, i9, i42, i43, i44]
      refine cald_eq hs1 ?_
      simp only [go_sem, Nat.reduceEqDiff, Nat.reduceBEq, Int.reduceToNat, Int.reduceLT, Int.reduceLE, Int.reduceEq, Nat.reduceLeDiff, Nat.reduceLT, Nat.reduceMul, Nat.reduceAdd, String.reduceEq, i0, i3, i9, i42, i43, i44]
      refine cald_eq hs2 ?_
      simp only [go_sem, Nat.reduceEqDiff, Nat.reduceBEq, Int.reduceToNat, Int.reduceLT, Int.reduceLE, Int.reduceEq, Nat.reduceLeDiff, Nat.reduceLT, Nat.reduceMul, Nat.reduceAdd, String.reduceEq, i0, i3, i9, i42, i43, i44, hw3]
      refine hQ .ret _ ?_; exact post_ret _ _ (ii (n + (if X.1 < Y.1 then Y.1 else X.1))) (by simp only [go_sem, Nat.reduceEqDiff, Nat.reduceBEq, Int.reduceToNat, Int.reduceLT, Int.reduceLE, Int.reduceEq, Nat.reduceLeDiff, Nat.reduceLT, Nat.reduceMul, Nat.reduceAdd, String.reduceEq]) rfl (DropW.ck0 B cs (Y.2) R rw_) ⟨by rw [hgo], by rw [hgo]⟩
  rw [if_neg k6] at hgo
  simp only [go_sem, Nat.reduceEqDiff, Nat.reduceBEq, Int.reduceToNat, Int.reduceLT, Int.reduceLE, Int.reduceEq, Nat.reduceLeDiff, Nat.reduceLT, Nat.reduceMul, Nat.reduceAdd, String.reduceEq, k6]
  refine hQ .normal _ ?_; clear hQ Q
  refine TS.cond (t := false) (by simp only [go_sem, Nat.reduceEqDiff, Nat.reduceBEq, Int.reduceToNat, Int.reduceLT, Int.reduceLE, Int.reduceEq, Nat.reduceLeDiff, Nat.reduceLT, Nat.reduceMul, Nat.reduceAdd, String.reduceEq, k6]) ?_
  by_cases k78 : s.k = 7 ∨ s.k = 8
  · rw [if_pos k78] at hgo
    have hk1 : ¬ (8 : Int) = 7 := by decide
    have hd := declare_sim cs hok (by have := hok.ul; omega) s.s 1 s.p B R rw_
    have hok1 := hok.declare s.s (kind := 1) (fun _ => by decide) s.p
    generalize cs.declare s.s 1 s.p = D at hgo hd hok1
    by_cases hn : 64 < s.n
    · rw [if_pos hn] at hgo
      rcases k78 with k7 | k7
      · refine TS.of [] fun Q hQ => ?_
        simp only [go_sem, Nat.reduceEqDiff, Nat.reduceBEq, Int.reduceToNat, Int.reduceLT, Int.reduceLE, Int.reduceEq, Nat.reduceLeDiff, Nat.reduceLT, Nat.reduceMul, Nat.reduceAdd, String.reduceEq, k7]
        refine cal_eq hd ?_
        simp only [go_sem, Nat.reduceEqDiff, Nat.reduceBEq, Int.reduceToNat, Int.reduceLT, Int.reduceLE, Int.reduceEq, Nat.reduceLeDiff, Nat.reduceLT, Nat.reduceMul, Nat.reduceAdd, String.reduceEq, hn]
        refine cal_eq (fail_sim D 11 s.p B R rw_) ?_
        simp only [go_sem, Nat.reduceEqDiff, Nat.reduceBEq, Int.reduceToNat, Int.reduceLT, Int.reduceLE, Int.reduceEq, Nat.reduceLeDiff, Nat.reduceLT, Nat.reduceMul, Nat.reduceAdd, String.reduceEq]
        refine hQ .ret _ ?_; exact post_ret _ _ (ii 1) (by simp only [go_sem, Nat.reduceEqDiff, Nat.reduceBEq, Int.reduceToNat, Int.reduceLT, Int.reduceLE, Int.reduceEq, Nat.reduceLeDiff, Nat.reduceLT, Nat.reduceMul, Nat.reduceAdd, String.reduceEq]) rfl (DropW.ck0 B cs (D.fail 11 s.p) R rw_) ⟨by rw [hgo], by rw [hgo]⟩
      · refine TS.of [] fun Q hQ => ?_
        simp only [go_sem, Nat.reduceEqDiff, Nat.reduceBEq, Int.reduceToNat, Int.reduceLT, Int.reduceLE, Int.reduceEq, Nat.reduceLeDiff, Nat.reduceLT, Nat.reduceMul, Nat.reduceAdd, String.reduceEq, k7, hk1]
        refine cal_eq hd ?_
        simp only [go_sem, Nat.reduceEqDiff, Nat.reduceBEq, Int.reduceToNat, Int.reduceLT, Int.reduceLE, Int.reduceEq, Nat.reduceLeDiff, Nat.reduceLT, Nat.reduceMul, Nat.reduceAdd, String.reduceEq, hn]
        refine cal_eq (fail_sim D 11 s.p B R rw_) ?_
        simp only [go_sem, Nat.reduceEqDiff, Nat.reduceBEq, Int.reduceToNat, Int.reduceLT, Int.reduceLE, Int.reduceEq, Nat.reduceLeDiff, Nat.reduceLT, Nat.reduceMul, Nat.reduceAdd, String.reduceEq]
        refine hQ .ret _ ?_; exact post_ret _ _ (ii 1) (by simp only [go_sem, Nat.reduceEqDiff, Nat.reduceBEq, Int.reduceToNat, Int.reduceLT, Int.reduceLE, Int.reduceEq, Nat.reduceLeDiff, Nat.reduceLT, Nat.reduceMul, Nat.reduceAdd, String.reduceEq]) rfl (DropW.ck0 B cs (D.fail 11 s.p) R rw_) ⟨by rw [hgo], by rw [hgo]⟩
    · rw [if_neg hn] at hgo
      have hs1 := (ih (szt s.b) (by omega) s.b [s.s] D (Nat.le_refl _) hok1 hf3 (by simp)).mem B R rw_
      have hl1 := cloop_le s.b [s.s] 0 D hf3 (by omega)
      generalize cloop s.b [s.s] 0 D = X at hgo hs1 hl1
      have w1 : IntKind.i64.wrap (1 + X.1) = 1 + X.1 := wrap_small (by omega) (by omega)
      have hm : (if 2049 < 1 + X.1 then 2049 else 1 + X.1) ≤ 2049 ∧ 0 ≤ (if 2049 < 1 + X.1 then 2049 else 1 + X.1) := by split <;> omega
      have h5 : s.n * (if 2049 < 1 + X.1 then 2049 else 1 + X.1) ≤ 64 * 2049 := Int.mul_le_mul (by omega) hm.1 hm.2 (by omega)
      have h6 : 0 ≤ s.n * (if 2049 < 1 + X.1 then 2049 else 1 + X.1) := Int.mul_nonneg hf1 hm.2
      have w2 : IntKind.i64.wrap (s.n * (if 2049 < 1 + X.1 then 2049 else 1 + X.1)) = s.n * (if 2049 < 1 + X.1 then 2049 else 1 + X.1) := wrap_small (by omega) (by omega)
      have w3 : IntKind.i64.wrap (1 + s.n * (if 2049 < 1 + X.1 then 2049 else 1 + X.1)) = 1 + s.n * (if 2049 < 1 + X.1 then 2049 else 1 + X.1) := wrap_small (by omega) (by omega)
      rcases k78 with k7 | k7
      · refine TS.of [] fun Q hQ => ?_
        simp only [go_sem, Nat.reduceEqDiff, Nat.reduceBEq, Int.reduceToNat, Int.reduceLT, Int.reduceLE, Int.reduceEq, Nat.reduceLeDiff, Nat.reduceLT, Nat.reduceMul, Nat.reduceAdd, String.reduceEq, k7]
        refine cal_eq hd ?_
        simp only [go_sem, Nat.reduceEqDiff, Nat.reduceBEq, Int.reduceToNat, Int.reduceLT, Int.reduceLE, Int.reduceEq, Nat.reduceLeDiff, Nat.reduceLT, Nat.reduceMul, Nat.reduceAdd, String.reduceEq, hn]
        refine drn_of ⟨[82, 85, 87], [], []⟩ [0, 1, 0, 0, 8, 0, 32, 96, 252, 508, 1020, 2047, 4095, 8191] (by kernel_rfl) ?_
        simp only [go_sem, Nat.reduceEqDiff, Nat.reduceBEq, Int.reduceToNat, Int.reduceLT, Int.reduceLE, Int.reduceEq, Nat.reduceLeDiff, Nat.reduceLT, Nat.reduceMul, Nat.reduceAdd, String.reduceEq]
        refine cald_eq hs1 ?_
        simp only [go_sem, Nat.reduceEqDiff, Nat.reduceBEq, Int.reduceToNat, Int.reduceLT, Int.reduceLE, Int.reduceEq, Nat.reduceLeDiff, Nat.reduceLT, Nat.reduceMul, Nat.reduceAdd, String.reduceEq, w1, w2, w3]
        refine hQ .ret _ ?_; exact post_ret _ _ (ii (1 + s.n * (if 2049 < 1 + X.1 then 2049 else 1 + X.1))) (by simp only [go_sem, Nat.reduceEqDiff, Nat.reduceBEq, Int.reduceToNat, Int.reduceLT, Int.reduceLE, Int.reduceEq, Nat.reduceLeDiff, Nat.reduceLT, Nat.reduceMul, Nat.reduceAdd, String.reduceEq]) rfl (DropW.ck0 B cs (X.2) R rw_) ⟨by rw [hgo], by rw [hgo]⟩
      · refine TS.of [] fun Q hQ => ?_
        simp only [go_sem, Nat.reduceEqDiff, Nat.reduceBEq, Int.reduceToNat, Int.reduceLT, Int.reduceLE, Int.reduceEq, Nat.reduceLeDiff, Nat.reduceLT, Nat.reduceMul, Nat.reduceAdd, String.reduceEq, k7, hk1]
        refine cal_eq hd ?_
        simp only [go_sem, Nat.reduceEqDiff, Nat.reduceBEq, Int.reduceToNat, Int.reduceLT, Int.reduceLE, Int.reduceEq, Nat.reduceLeDiff, Nat.reduceLT, Nat.reduceMul, Nat.reduceAdd, String.reduceEq, hn]
        refine drn_of ⟨[82, 85, 87], [], []⟩ [0, 1, 0, 0, 8, 0, 32, 96, 252, 508, 1020, 2047, 4095, 8191] (by kernel_rfl) ?_
        simp only [go_sem, Nat.reduceEqDiff, Nat.reduceBEq, Int.reduceToNat, Int.reduceLT, Int.reduceLE, Int.reduceEq, Nat.reduceLeDiff, Nat.reduceLT, Nat.reduceMul, Nat.reduceAdd, String.reduceEq]
        refine cald_eq hs1 ?_
        simp only [go_sem, Nat.reduceEqDiff, Nat.reduceBEq, Int.reduceToNat, Int.reduceLT, Int.reduceLE, Int.reduceEq, Nat.reduceLeDiff, Nat.reduceLT, Nat.reduceMul, Nat.reduceAdd, String.reduceEq, w1, w2, w3]
        refine hQ .ret _ ?_; exact post_ret _ _ (ii (1 + s.n * (if 2049 < 1 + X.1 then 2049 else 1 + X.1))) (by simp only [go_sem, Nat.reduceEqDiff, Nat.reduceBEq, Int.reduceToNat, Int.reduceLT, Int.reduceLE, Int.reduceEq, Nat.reduceLeDiff, Nat.reduceLT, Nat.reduceMul, Nat.reduceAdd, String.reduceEq]) rfl (DropW.ck0 B cs (X.2) R rw_) ⟨by rw [hgo], by rw [hgo]⟩
  · rw [if_neg k78] at hgo
    have k7 : ¬ s.k = 7 := fun h => k78 (.inl h)
    have k8 : ¬ s.k = 8 := fun h => k78 (.inr h)
    have hc := changes_sim cs s.k B R rw_
    generalize cs.changes s.k = D at hgo hc
    have hs1 := numbers_sim s D (by omega) B R rw_
    have hl1 := cargs_le s.x 1 D
    rw [encT_eq] at hs1
    generalize cargs s.x 1 D = X at hgo hs1 hl1
    have w1 : IntKind.i64.wrap (1 + X.1) = 1 + X.1 := wrap_small (by omega) (by omega)
    refine TS.of [] fun Q hQ => ?_
    simp only [go_sem, Nat.reduceEqDiff, Nat.reduceBEq, Int.reduceToNat, Int.reduceLT, Int.reduceLE, Int.reduceEq, Nat.reduceLeDiff, Nat.reduceLT, Nat.reduceMul, Nat.reduceAdd, String.reduceEq, k7, k8]
    refine hQ .normal _ ?_; clear hQ Q
    refine TS.of [] fun Q hQ => ?_
    simp only [go_sem, Nat.reduceEqDiff, Nat.reduceBEq, Int.reduceToNat, Int.reduceLT, Int.reduceLE, Int.reduceEq, Nat.reduceLeDiff, Nat.reduceLT, Nat.reduceMul, Nat.reduceAdd, String.reduceEq]
    refine cal_eq hc ?_
    simp only [go_sem, Nat.reduceEqDiff, Nat.reduceBEq, Int.reduceToNat, Int.reduceLT, Int.reduceLE, Int.reduceEq, Nat.reduceLeDiff, Nat.reduceLT, Nat.reduceMul, Nat.reduceAdd, String.reduceEq]
    refine cal_eq hs1 ?_
    simp only [go_sem, Nat.reduceEqDiff, Nat.reduceBEq, Int.reduceToNat, Int.reduceLT, Int.reduceLE, Int.reduceEq, Nat.reduceLeDiff, Nat.reduceLT, Nat.reduceMul, Nat.reduceAdd, String.reduceEq, w1]
    refine hQ .ret _ ?_; exact post_ret _ _ (ii (1 + X.1)) (by simp only [go_sem, Nat.reduceEqDiff, Nat.reduceBEq, Int.reduceToNat, Int.reduceLT, Int.reduceLE, Int.reduceEq, Nat.reduceLeDiff, Nat.reduceLT, Nat.reduceMul, Nat.reduceAdd, String.reduceEq]) rfl (DropW.ck0 B cs (X.2) R rw_) ⟨by rw [hgo], by rw [hgo]⟩
theorem check_block : ∀ N, N < 800000 → TC N ∧ BC N := by
  intro N
  induction N using Nat.strongRecOn with
  | ind N ih =>
    intro hN
    have hT : TC N := stmt_cstep hN (fun M h => (ih M h (by omega)).2)
    exact ⟨hT, block_cstep hN hT⟩
theorem cloop_sim (l : List Stmt) (cs : CS) (h : szt l < 800000) (hok : cs.ok) (hf : fineTs l) : SimC 59 [slT l, .sl .full 0 []] cs (ii (cloop l [] 0 cs).1) (cloop l [] 0 cs).2 := (check_block _ h).2 l [] cs (Nat.le_refl _) hok hf (by simp)
end Go.Proofs.Ytphjldhdnmoolaa.A
