/- Joined: B11, B12, B13, B14, B15, B16 -/
import Derived.Test.YtphjldhdnmoolaaJBase1
set_option linter.unusedVariables false
set_option linter.unusedSimpArgs false
/- The walks of some functions over the abstract machine. -/
namespace Go.Proofs.Ytphjldhdnmoolaa.A
open Go
theorem Stmt.k_mk {k s x n b e p} : (Stmt.mk k s x n b e p).k = k := rfl
theorem Stmt.s_mk {k s x n b e p} : (Stmt.mk k s x n b e p).s = s := rfl
theorem Stmt.x_mk {k s x n b e p} : (Stmt.mk k s x n b e p).x = x := rfl
theorem Stmt.n_mk {k s x n b e p} : (Stmt.mk k s x n b e p).n = n := rfl
theorem Stmt.b_mk {k s x n b e p} : (Stmt.mk k s x n b e p).b = b := rfl
theorem Stmt.e_mk {k s x n b e p} : (Stmt.mk k s x n b e p).e = e := rfl
theorem Stmt.p_mk {k s x n b e p} : (Stmt.mk k s x n b e p).p = p := rfl
set_option maxRecDepth 100000 in
set_option maxHeartbeats 4000000 in
theorem cell_sim {l : List Tok} (T : Toks l) (hsz : ∀ p, (tk l p).s.size < 900000) (m : Mem) (p depth : Int) (ho : okA l p) (h0 : 0 ≤ p) (hd : 0 ≤ depth) (hd' : depth ≤ 1000) : Sim 92 [slK l, ii p, ii depth] m (fun r m' => r = .tup [.agg (encT (cellS l p depth).1), ii (cellS l p depth).2] ∧ m' = m) := by
  have hp := ho
  obtain ⟨h1, h2⟩ := ho
  have hl := T.lt
  refine Sim.ofS 99 [.cell 6 104, .tmp 7] Try.func92 rfl rfl rfl (by simp) fun wr => ?_
  simp only [go_sem, true_or, or_true, Int.cast_ofNat_Int, not_true_eq_false, true_implies, forall_const, not_false_eq_true, List.size_toArray, Array.size_empty, and_self, ne_eq, not_false_eq_true, Nat.reduceEqDiff, Nat.mul_one, List.contains_nil, List.contains_cons, Bool.false_or, Bool.or_false, false_implies, implies_true, beq_self_eq_true, Nat.reduceBEq, Int.ofNat_le, Int.reduceToNat, Int.reduceLT, Int.reduceLE, Int.reduceEq, Nat.reduceLeDiff, Nat.reduceLT, Nat.reduceEqDiff, Nat.reduceMul, Nat.reduceAdd, Nat.reduceBEq, List.length_cons, List.length_nil, String.reduceEq]
  obtain ⟨n, rfl⟩ := nat_of (p := p) (by omega)
  have hlt : n < l.length := by omega
  have hat := encK_at (tk_at hlt)
  have hl3 := encK_lt hlt
  have hgo : cellS l n depth = cellS l n depth := rfl
  conv at hgo => rhs; unfold cellS
  have hsub := fun m => around_sim T hsz m n depth qLB qRB hp hd hd'
  have ha := around_adv1 T (depth := depth) (a := qLB) (b := qRB) hp
  generalize around l n depth qLB qRB = X at hgo hsub ha
  have hX := ha.1
  obtain ⟨hX1, hX2⟩ := ha.1
  refine TS.of [] fun Q hQ => ?_
  simp only [go_sem, true_or, or_true, Int.cast_ofNat_Int, not_true_eq_false, true_implies, forall_const, not_false_eq_true, List.size_toArray, Array.size_empty, and_self, ne_eq, not_false_eq_true, Nat.reduceEqDiff, Nat.mul_one, List.contains_nil, List.contains_cons, Bool.false_or, Bool.or_false, false_implies, implies_true, beq_self_eq_true, Nat.reduceBEq, Int.ofNat_le, Int.reduceToNat, Int.reduceLT, Int.reduceLE, Int.reduceEq, Nat.reduceLeDiff, Nat.reduceLT, Nat.reduceEqDiff, Nat.reduceMul, Nat.reduceAdd, Nat.reduceBEq, List.length_cons, List.length_nil, String.reduceEq, h0, hlt, hat, hl3]
  refine cal_eq (hsub _) ?_
  simp only [go_sem, true_or, or_true, Int.cast_ofNat_Int, not_true_eq_false, true_implies, forall_const, not_false_eq_true, List.size_toArray, Array.size_empty, and_self, ne_eq, not_false_eq_true, Nat.reduceEqDiff, Nat.mul_one, List.contains_nil, List.contains_cons, Bool.false_or, Bool.or_false, false_implies, implies_true, beq_self_eq_true, Nat.reduceBEq, Int.ofNat_le, Int.reduceToNat, Int.reduceLT, Int.reduceLE, Int.reduceEq, Nat.reduceLeDiff, Nat.reduceLT, Nat.reduceEqDiff, Nat.reduceMul, Nat.reduceAdd, Nat.reduceBEq, List.length_cons, List.length_nil, String.reduceEq, encE_eq]
  refine cal_eq (is_sim _ l X.2 qSet hX2) ?_
  have hwx : 0 ≤ X.2 → IntKind.i64.wrap (X.2 + 1) = X.2 + 1 := fun _ => wrap_small (by omega) (by omega)
  cases hA : isP l X.2 qSet with
  | true =>
    have hnx := isP_lt T hX hA
    have hns : isP l X.2 qSwap = false := by
      cases h : isP l X.2 qSwap with
      | false => rfl
      | true => have e1 := (isP_k T hA).2.2; have e2 := (isP_k T h).2.2; rw [e1] at e2; exact absurd e2 (by decide)
    rw [if_neg (by simp [hns]), if_pos (by simp [hA]), if_pos hA] at hgo
    have hsub2 := fun m => expr_sim T hsz m (X.2 + 1) 1 depth hnx.2 hd hd' (by omega) (by omega)
    have hy := expr_adv1 T (least := 1) (depth := depth) hnx.2
    generalize expr l (X.2 + 1) 1 depth = Y at hgo hsub2 hy
    simp only [go_sem, true_or, or_true, Int.cast_ofNat_Int, not_true_eq_false, true_implies, forall_const, not_false_eq_true, List.size_toArray, Array.size_empty, and_self, ne_eq, not_false_eq_true, Nat.reduceEqDiff, Nat.mul_one, List.contains_nil, List.contains_cons, Bool.false_or, Bool.or_false, false_implies, implies_true, beq_self_eq_true, Nat.reduceBEq, Int.ofNat_le, Int.reduceToNat, Int.reduceLT, Int.reduceLE, Int.reduceEq, Nat.reduceLeDiff, Nat.reduceLT, Nat.reduceEqDiff, Nat.reduceMul, Nat.reduceAdd, Nat.reduceBEq, List.length_cons, List.length_nil, String.reduceEq, hwx hnx.1]
    refine cal_eq (hsub2 _) ?_
    simp only [go_sem, true_or, or_true, Int.cast_ofNat_Int, not_true_eq_false, true_implies, forall_const, not_false_eq_true, List.size_toArray, Array.size_empty, and_self, ne_eq, not_false_eq_true, Nat.reduceEqDiff, Nat.mul_one, List.contains_nil, List.contains_cons, Bool.false_or, Bool.or_false, false_implies, implies_true, beq_self_eq_true, Nat.reduceBEq, Int.ofNat_le, Int.reduceToNat, Int.reduceLT, Int.reduceLE, Int.reduceEq, Nat.reduceLeDiff, Nat.reduceLT, Nat.reduceEqDiff, Nat.reduceMul, Nat.reduceAdd, Nat.reduceBEq, List.length_cons, List.length_nil, String.reduceEq, encE_eq]
    refine drn_of ⟨[], [], []⟩ [0, 0, 0, 6, 15, 31] (by kernel_rfl) ?_
    simp only [go_sem, true_or, or_true, Int.cast_ofNat_Int, not_true_eq_false, true_implies, forall_const, not_false_eq_true, List.size_toArray, Array.size_empty, and_self, ne_eq, not_false_eq_true, Nat.reduceEqDiff, Nat.mul_one, List.contains_nil, List.contains_cons, Bool.false_or, Bool.or_false, false_implies, implies_true, beq_self_eq_true, Nat.reduceBEq, Int.ofNat_le, Int.reduceToNat, Int.reduceLT, Int.reduceLE, Int.reduceEq, Nat.reduceLeDiff, Nat.reduceLT, Nat.reduceEqDiff, Nat.reduceMul, Nat.reduceAdd, Nat.reduceBEq, List.length_cons, List.length_nil, String.reduceEq, encE_eq]
    refine cald_eq (eat_sim _ l Y.2 qSemi hy.1 hl) ?_
    simp only [go_sem, true_or, or_true, Int.cast_ofNat_Int, not_true_eq_false, true_implies, forall_const, not_false_eq_true, List.size_toArray, Array.size_empty, and_self, ne_eq, not_false_eq_true, Nat.reduceEqDiff, Nat.mul_one, List.contains_nil, List.contains_cons, Bool.false_or, Bool.or_false, false_implies, implies_true, beq_self_eq_true, Nat.reduceBEq, Int.ofNat_le, Int.reduceToNat, Int.reduceLT, Int.reduceLE, Int.reduceEq, Nat.reduceLeDiff, Nat.reduceLT, Nat.reduceEqDiff, Nat.reduceMul, Nat.reduceAdd, Nat.reduceBEq, List.length_cons, List.length_nil, String.reduceEq]
    refine hQ .ret _ ?_; clear hQ Q; refine post_ret _ _ (.tup [.agg (encT (.mk 2 ByteArray.empty [X.1, Y.1] 0 [] [] (tk l n).p)), ii (eatP l Y.2 qSemi)]) ?_ ?_ (DropW.tail0 _ rfl) ⟨?_, rfl⟩
    · simp only [go_sem, true_or, or_true, Int.cast_ofNat_Int, not_true_eq_false, true_implies, forall_const, not_false_eq_true, List.size_toArray, Array.size_empty, and_self, ne_eq, not_false_eq_true, Nat.reduceEqDiff, Nat.mul_one, List.contains_nil, List.contains_cons, Bool.false_or, Bool.or_false, false_implies, implies_true, beq_self_eq_true, Nat.reduceBEq, Int.ofNat_le, Int.reduceToNat, Int.reduceLT, Int.reduceLE, Int.reduceEq, Nat.reduceLeDiff, Nat.reduceLT, Nat.reduceEqDiff, Nat.reduceMul, Nat.reduceAdd, Nat.reduceBEq, List.length_cons, List.length_nil, String.reduceEq, encT_eq, encE_eq, Stmt.k_mk, Stmt.s_mk, Stmt.x_mk, Stmt.n_mk, Stmt.b_mk, Stmt.e_mk, Stmt.p_mk, encEs, encTs, slE, slT, List.append_nil] <;> rfl
    · simp [IV.np, npL, npT]
    · rw [hgo]
  | false =>
    simp only [go_sem, true_or, or_true, Int.cast_ofNat_Int, not_true_eq_false, true_implies, forall_const, not_false_eq_true, List.size_toArray, Array.size_empty, and_self, ne_eq, not_false_eq_true, Nat.reduceEqDiff, Nat.mul_one, List.contains_nil, List.contains_cons, Bool.false_or, Bool.or_false, false_implies, implies_true, beq_self_eq_true, Nat.reduceBEq, Int.ofNat_le, Int.reduceToNat, Int.reduceLT, Int.reduceLE, Int.reduceEq, Nat.reduceLeDiff, Nat.reduceLT, Nat.reduceEqDiff, Nat.reduceMul, Nat.reduceAdd, Nat.reduceBEq, List.length_cons, List.length_nil, String.reduceEq]
    refine cal_eq (is_sim _ l X.2 qAddS hX2) ?_
    cases hB : isP l X.2 qAddS with
    | true =>
      have hnx := isP_lt T hX hB
      have hns : isP l X.2 qSwap = false := by
        cases h : isP l X.2 qSwap with
        | false => rfl
        | true => have e1 := (isP_k T hB).2.2; have e2 := (isP_k T h).2.2; rw [e1] at e2; exact absurd e2 (by decide)
      rw [if_neg (by simp [hns]), if_pos (by simp [hB]), if_neg (by simp [hA]), if_pos hB] at hgo
      have hsub2 := fun m => expr_sim T hsz m (X.2 + 1) 1 depth hnx.2 hd hd' (by omega) (by omega)
      have hy := expr_adv1 T (least := 1) (depth := depth) hnx.2
      generalize expr l (X.2 + 1) 1 depth = Y at hgo hsub2 hy
      simp only [go_sem, true_or, or_true, Int.cast_ofNat_Int, not_true_eq_false, true_implies, forall_const, not_false_eq_true, List.size_toArray, Array.size_empty, and_self, ne_eq, not_false_eq_true, Nat.reduceEqDiff, Nat.mul_one, List.contains_nil, List.contains_cons, Bool.false_or, Bool.or_false, false_implies, implies_true, beq_self_eq_true, Nat.reduceBEq, Int.ofNat_le, Int.reduceToNat, Int.reduceLT, Int.reduceLE, Int.reduceEq, Nat.reduceLeDiff, Nat.reduceLT, Nat.reduceEqDiff, Nat.reduceMul, Nat.reduceAdd, Nat.reduceBEq, List.length_cons, List.length_nil, String.reduceEq, hwx hnx.1]
      refine cal_eq (hsub2 _) ?_
      simp only [go_sem, true_or, or_true, Int.cast_ofNat_Int, not_true_eq_false, true_implies, forall_const, not_false_eq_true, List.size_toArray, Array.size_empty, and_self, ne_eq, not_false_eq_true, Nat.reduceEqDiff, Nat.mul_one, List.contains_nil, List.contains_cons, Bool.false_or, Bool.or_false, false_implies, implies_true, beq_self_eq_true, Nat.reduceBEq, Int.ofNat_le, Int.reduceToNat, Int.reduceLT, Int.reduceLE, Int.reduceEq, Nat.reduceLeDiff, Nat.reduceLT, Nat.reduceEqDiff, Nat.reduceMul, Nat.reduceAdd, Nat.reduceBEq, List.length_cons, List.length_nil, String.reduceEq, encE_eq]
      refine drn_of ⟨[], [], []⟩ [0, 0, 0, 6, 15, 31] (by kernel_rfl) ?_
      simp only [go_sem, true_or, or_true, Int.cast_ofNat_Int, not_true_eq_false, true_implies, forall_const, not_false_eq_true, List.size_toArray, Array.size_empty, and_self, ne_eq, not_false_eq_true, Nat.reduceEqDiff, Nat.mul_one, List.contains_nil, List.contains_cons, Bool.false_or, Bool.or_false, false_implies, implies_true, beq_self_eq_true, Nat.reduceBEq, Int.ofNat_le, Int.reduceToNat, Int.reduceLT, Int.reduceLE, Int.reduceEq, Nat.reduceLeDiff, Nat.reduceLT, Nat.reduceEqDiff, Nat.reduceMul, Nat.reduceAdd, Nat.reduceBEq, List.length_cons, List.length_nil, String.reduceEq, encE_eq]
      refine cald_eq (eat_sim _ l Y.2 qSemi hy.1 hl) ?_
      simp only [go_sem, true_or, or_true, Int.cast_ofNat_Int, not_true_eq_false, true_implies, forall_const, not_false_eq_true, List.size_toArray, Array.size_empty, and_self, ne_eq, not_false_eq_true, Nat.reduceEqDiff, Nat.mul_one, List.contains_nil, List.contains_cons, Bool.false_or, Bool.or_false, false_implies, implies_true, beq_self_eq_true, Nat.reduceBEq, Int.ofNat_le, Int.reduceToNat, Int.reduceLT, Int.reduceLE, Int.reduceEq, Nat.reduceLeDiff, Nat.reduceLT, Nat.reduceEqDiff, Nat.reduceMul, Nat.reduceAdd, Nat.reduceBEq, List.length_cons, List.length_nil, String.reduceEq]
      refine hQ .ret _ ?_; clear hQ Q; refine post_ret _ _ (.tup [.agg (encT (.mk 3 ByteArray.empty [X.1, Y.1] 0 [] [] (tk l n).p)), ii (eatP l Y.2 qSemi)]) ?_ ?_ (DropW.tail0 _ rfl) ⟨?_, rfl⟩
      · simp only [go_sem, true_or, or_true, Int.cast_ofNat_Int, not_true_eq_false, true_implies, forall_const, not_false_eq_true, List.size_toArray, Array.size_empty, and_self, ne_eq, not_false_eq_true, Nat.reduceEqDiff, Nat.mul_one, List.contains_nil, List.contains_cons, Bool.false_or, Bool.or_false, false_implies, implies_true, beq_self_eq_true, Nat.reduceBEq, Int.ofNat_le, Int.reduceToNat, Int.reduceLT, Int.reduceLE, Int.reduceEq, Nat.reduceLeDiff, Nat.reduceLT, Nat.reduceEqDiff, Nat.reduceMul, Nat.reduceAdd, Nat.reduceBEq, List.length_cons, List.length_nil, String.reduceEq, encT_eq, encE_eq, Stmt.k_mk, Stmt.s_mk, Stmt.x_mk, Stmt.n_mk, Stmt.b_mk, Stmt.e_mk, Stmt.p_mk, encEs, encTs, slE, slT, List.append_nil] <;> rfl
      · simp [IV.np, npL, npT]
      · rw [hgo]
    | false =>
      simp only [go_sem, true_or, or_true, Int.cast_ofNat_Int, not_true_eq_false, true_implies, forall_const, not_false_eq_true, List.size_toArray, Array.size_empty, and_self, ne_eq, not_false_eq_true, Nat.reduceEqDiff, Nat.mul_one, List.contains_nil, List.contains_cons, Bool.false_or, Bool.or_false, false_implies, implies_true, beq_self_eq_true, Nat.reduceBEq, Int.ofNat_le, Int.reduceToNat, Int.reduceLT, Int.reduceLE, Int.reduceEq, Nat.reduceLeDiff, Nat.reduceLT, Nat.reduceEqDiff, Nat.reduceMul, Nat.reduceAdd, Nat.reduceBEq, List.length_cons, List.length_nil, String.reduceEq]
      refine cal_eq (is_sim _ l X.2 qSubS hX2) ?_
      cases hC : isP l X.2 qSubS with
      | true =>
        have hnx := isP_lt T hX hC
        have hns : isP l X.2 qSwap = false := by
          cases h : isP l X.2 qSwap with
          | false => rfl
          | true => have e1 := (isP_k T hC).2.2; have e2 := (isP_k T h).2.2; rw [e1] at e2; exact absurd e2 (by decide)
        rw [if_neg (by simp [hns]), if_pos (by simp [hC]), if_neg (by simp [hA]), if_neg (by simp [hB])] at hgo
        have hsub2 := fun m => expr_sim T hsz m (X.2 + 1) 1 depth hnx.2 hd hd' (by omega) (by omega)
        have hy := expr_adv1 T (least := 1) (depth := depth) hnx.2
        generalize expr l (X.2 + 1) 1 depth = Y at hgo hsub2 hy
        simp only [go_sem, true_or, or_true, Int.cast_ofNat_Int, not_true_eq_false, true_implies, forall_const, not_false_eq_true, List.size_toArray, Array.size_empty, and_self, ne_eq, not_false_eq_true, Nat.reduceEqDiff, Nat.mul_one, List.contains_nil, List.contains_cons, Bool.false_or, Bool.or_false, false_implies, implies_true, beq_self_eq_true, Nat.reduceBEq, Int.ofNat_le, Int.reduceToNat, Int.reduceLT, Int.reduceLE, Int.reduceEq, Nat.reduceLeDiff, Nat.reduceLT, Nat.reduceEqDiff, Nat.reduceMul, Nat.reduceAdd, Nat.reduceBEq, List.length_cons, List.length_nil, String.reduceEq, hwx hnx.1]
        refine cal_eq (hsub2 _) ?_
        simp only [go_sem, true_or, or_true, Int.cast_ofNat_Int, not_true_eq_false, true_implies, forall_const, not_false_eq_true, List.size_toArray, Array.size_empty, and_self, ne_eq, not_false_eq_true, Nat.reduceEqDiff, Nat.mul_one, List.contains_nil, List.contains_cons, Bool.false_or, Bool.or_false, false_implies, implies_true, beq_self_eq_true, Nat.reduceBEq, Int.ofNat_le, Int.reduceToNat, Int.reduceLT, Int.reduceLE, Int.reduceEq, Nat.reduceLeDiff, Nat.reduceLT, Nat.reduceEqDiff, Nat.reduceMul, Nat.reduceAdd, Nat.reduceBEq, List.length_cons, List.length_nil, String.reduceEq, encE_eq]
        refine drn_of ⟨[], [], []⟩ [0, 0, 0, 6, 15, 31] (by kernel_rfl) ?_
        simp only [go_sem, true_or, or_true, Int.cast_ofNat_Int, not_true_eq_false, true_implies, forall_const, not_false_eq_true, List.size_toArray, Array.size_empty, and_self, ne_eq, not_false_eq_true, Nat.reduceEqDiff, Nat.mul_one, List.contains_nil, List.contains_cons, Bool.false_or, Bool.or_false, false_implies, implies_true, beq_self_eq_true, Nat.reduceBEq, Int.ofNat_le, Int.reduceToNat, Int.reduceLT, Int.reduceLE, Int.reduceEq, Nat.reduceLeDiff, Nat.reduceLT, Nat.reduceEqDiff, Nat.reduceMul, Nat.reduceAdd, Nat.reduceBEq, List.length_cons, List.length_nil, String.reduceEq, encE_eq]
        refine cald_eq (eat_sim _ l Y.2 qSemi hy.1 hl) ?_
        simp only [go_sem, true_or, or_true, Int.cast_ofNat_Int, not_true_eq_false, true_implies, forall_const, not_false_eq_true, List.size_toArray, Array.size_empty, and_self, ne_eq, not_false_eq_true, Nat.reduceEqDiff, Nat.mul_one, List.contains_nil, List.contains_cons, Bool.false_or, Bool.or_false, false_implies, implies_true, beq_self_eq_true, Nat.reduceBEq, Int.ofNat_le, Int.reduceToNat, Int.reduceLT, Int.reduceLE, Int.reduceEq, Nat.reduceLeDiff, Nat.reduceLT, Nat.reduceEqDiff, Nat.reduceMul, Nat.reduceAdd, Nat.reduceBEq, List.length_cons, List.length_nil, String.reduceEq]
        refine hQ .ret _ ?_; clear hQ Q; refine post_ret _ _ (.tup [.agg (encT (.mk 4 ByteArray.empty [X.1, Y.1] 0 [] [] (tk l n).p)), ii (eatP l Y.2 qSemi)]) ?_ ?_ (DropW.tail0 _ rfl) ⟨?_, rfl⟩
        · simp only [go_sem, true_or, or_true, Int.cast_ofNat_Int, not_true_eq_false, true_implies, forall_const, not_false_eq_true, List.size_toArray, Array.size_empty, and_self, ne_eq, not_false_eq_true, Nat.reduceEqDiff, Nat.mul_one, List.contains_nil, List.contains_cons, Bool.false_or, Bool.or_false, false_implies, implies_true, beq_self_eq_true, Nat.reduceBEq, Int.ofNat_le, Int.reduceToNat, Int.reduceLT, Int.reduceLE, Int.reduceEq, Nat.reduceLeDiff, Nat.reduceLT, Nat.reduceEqDiff, Nat.reduceMul, Nat.reduceAdd, Nat.reduceBEq, List.length_cons, List.length_nil, String.reduceEq, encT_eq, encE_eq, Stmt.k_mk, Stmt.s_mk, Stmt.x_mk, Stmt.n_mk, Stmt.b_mk, Stmt.e_mk, Stmt.p_mk, encEs, encTs, slE, slT, List.append_nil] <;> rfl
        · simp [IV.np, npL, npT]
        · rw [hgo]
      | false =>
        simp only [go_sem, true_or, or_true, Int.cast_ofNat_Int, not_true_eq_false, true_implies, forall_const, not_false_eq_true, List.size_toArray, Array.size_empty, and_self, ne_eq, not_false_eq_true, Nat.reduceEqDiff, Nat.mul_one, List.contains_nil, List.contains_cons, Bool.false_or, Bool.or_false, false_implies, implies_true, beq_self_eq_true, Nat.reduceBEq, Int.ofNat_le, Int.reduceToNat, Int.reduceLT, Int.reduceLE, Int.reduceEq, Nat.reduceLeDiff, Nat.reduceLT, Nat.reduceEqDiff, Nat.reduceMul, Nat.reduceAdd, Nat.reduceBEq, List.length_cons, List.length_nil, String.reduceEq]
        refine cal_eq (is_sim _ l X.2 qSwap hX2) ?_
        cases hD : isP l X.2 qSwap with
        | true =>
          have hnx := isP_lt T hX hD
          obtain ⟨hn1, hn2⟩ := hnx.2
          rw [if_pos hD] at hgo
          have hsub2 := fun m => around_sim T hsz m (X.2 + 1) depth qLB qRB hnx.2 hd hd'
          have hy := around_adv1 T (depth := depth) (a := qLB) (b := qRB) hnx.2
          generalize around l (X.2 + 1) depth qLB qRB = Y at hgo hsub2 hy
          have hso : okA l (swapEnd l X.2 Y.2) := by
            unfold swapEnd; split
            · exact (bad_adv T (p := 0) hnx.2 (by omega)).1
            · exact hy.1
          have hso1 := hso.1
          have hso2 := hso.2
          simp only [go_sem, true_or, or_true, Int.cast_ofNat_Int, not_true_eq_false, true_implies, forall_const, not_false_eq_true, List.size_toArray, Array.size_empty, and_self, ne_eq, not_false_eq_true, Nat.reduceEqDiff, Nat.mul_one, List.contains_nil, List.contains_cons, Bool.false_or, Bool.or_false, false_implies, implies_true, beq_self_eq_true, Nat.reduceBEq, Int.ofNat_le, Int.reduceToNat, Int.reduceLT, Int.reduceLE, Int.reduceEq, Nat.reduceLeDiff, Nat.reduceLT, Nat.reduceEqDiff, Nat.reduceMul, Nat.reduceAdd, Nat.reduceBEq, List.length_cons, List.length_nil, String.reduceEq, hwx hnx.1]
          refine cal_eq (hsub2 _) ?_
          simp only [go_sem, true_or, or_true, Int.cast_ofNat_Int, not_true_eq_false, true_implies, forall_const, not_false_eq_true, List.size_toArray, Array.size_empty, and_self, ne_eq, not_false_eq_true, Nat.reduceEqDiff, Nat.mul_one, List.contains_nil, List.contains_cons, Bool.false_or, Bool.or_false, false_implies, implies_true, beq_self_eq_true, Nat.reduceBEq, Int.ofNat_le, Int.reduceToNat, Int.reduceLT, Int.reduceLE, Int.reduceEq, Nat.reduceLeDiff, Nat.reduceLT, Nat.reduceEqDiff, Nat.reduceMul, Nat.reduceAdd, Nat.reduceBEq, List.length_cons, List.length_nil, String.reduceEq, encE_eq, hwx hnx.1]
          by_cases hneg : Y.2 < 0
          · simp only [go_sem, true_or, or_true, Int.cast_ofNat_Int, not_true_eq_false, true_implies, forall_const, not_false_eq_true, List.size_toArray, Array.size_empty, and_self, ne_eq, not_false_eq_true, Nat.reduceEqDiff, Nat.mul_one, List.contains_nil, List.contains_cons, Bool.false_or, Bool.or_false, false_implies, implies_true, beq_self_eq_true, Nat.reduceBEq, Int.ofNat_le, Int.reduceToNat, Int.reduceLT, Int.reduceLE, Int.reduceEq, Nat.reduceLeDiff, Nat.reduceLT, Nat.reduceEqDiff, Nat.reduceMul, Nat.reduceAdd, Nat.reduceBEq, List.length_cons, List.length_nil, String.reduceEq, hneg, hwx hnx.1]
            refine cal_eq (is_sim _ l (X.2 + 1) qLB hn2) ?_
            cases hE : isP l (X.2 + 1) qLB with
            | true =>
              have hsw : swapEnd l X.2 Y.2 = Y.2 := by simp [swapEnd, hE]
              dsimp only at hgo; rw [hsw] at hgo
              simp only [go_sem, true_or, or_true, Int.cast_ofNat_Int, not_true_eq_false, true_implies, forall_const, not_false_eq_true, List.size_toArray, Array.size_empty, and_self, ne_eq, not_false_eq_true, Nat.reduceEqDiff, Nat.mul_one, List.contains_nil, List.contains_cons, Bool.false_or, Bool.or_false, false_implies, implies_true, beq_self_eq_true, Nat.reduceBEq, Int.ofNat_le, Int.reduceToNat, Int.reduceLT, Int.reduceLE, Int.reduceEq, Nat.reduceLeDiff, Nat.reduceLT, Nat.reduceEqDiff, Nat.reduceMul, Nat.reduceAdd, Nat.reduceBEq, List.length_cons, List.length_nil, String.reduceEq]
              refine drn_of ⟨[], [], []⟩ [0, 0, 0, 6, 15, 31] (by kernel_rfl) ?_
              simp only [go_sem, true_or, or_true, Int.cast_ofNat_Int, not_true_eq_false, true_implies, forall_const, not_false_eq_true, List.size_toArray, Array.size_empty, and_self, ne_eq, not_false_eq_true, Nat.reduceEqDiff, Nat.mul_one, List.contains_nil, List.contains_cons, Bool.false_or, Bool.or_false, false_implies, implies_true, beq_self_eq_true, Nat.reduceBEq, Int.ofNat_le, Int.reduceToNat, Int.reduceLT, Int.reduceLE, Int.reduceEq, Nat.reduceLeDiff, Nat.reduceLT, Nat.reduceEqDiff, Nat.reduceMul, Nat.reduceAdd, Nat.reduceBEq, List.length_cons, List.length_nil, String.reduceEq]
              refine cald_eq (eat_sim _ l Y.2 qSemi hy.1 hl) ?_
              simp only [go_sem, true_or, or_true, Int.cast_ofNat_Int, not_true_eq_false, true_implies, forall_const, not_false_eq_true, List.size_toArray, Array.size_empty, and_self, ne_eq, not_false_eq_true, Nat.reduceEqDiff, Nat.mul_one, List.contains_nil, List.contains_cons, Bool.false_or, Bool.or_false, false_implies, implies_true, beq_self_eq_true, Nat.reduceBEq, Int.ofNat_le, Int.reduceToNat, Int.reduceLT, Int.reduceLE, Int.reduceEq, Nat.reduceLeDiff, Nat.reduceLT, Nat.reduceEqDiff, Nat.reduceMul, Nat.reduceAdd, Nat.reduceBEq, List.length_cons, List.length_nil, String.reduceEq]
              refine hQ .ret _ ?_; clear hQ Q; refine post_ret _ _ (.tup [.agg (encT (.mk 5 ByteArray.empty [X.1, Y.1] 0 [] [] (tk l n).p)), ii (eatP l Y.2 qSemi)]) ?_ ?_ (DropW.tail0 _ rfl) ⟨?_, rfl⟩
              · simp only [go_sem, true_or, or_true, Int.cast_ofNat_Int, not_true_eq_false, true_implies, forall_const, not_false_eq_true, List.size_toArray, Array.size_empty, and_self, ne_eq, not_false_eq_true, Nat.reduceEqDiff, Nat.mul_one, List.contains_nil, List.contains_cons, Bool.false_or, Bool.or_false, false_implies, implies_true, beq_self_eq_true, Nat.reduceBEq, Int.ofNat_le, Int.reduceToNat, Int.reduceLT, Int.reduceLE, Int.reduceEq, Nat.reduceLeDiff, Nat.reduceLT, Nat.reduceEqDiff, Nat.reduceMul, Nat.reduceAdd, Nat.reduceBEq, List.length_cons, List.length_nil, String.reduceEq, encT_eq, encE_eq, Stmt.k_mk, Stmt.s_mk, Stmt.x_mk, Stmt.n_mk, Stmt.b_mk, Stmt.e_mk, Stmt.p_mk, encEs, encTs, slE, slT, List.append_nil] <;> rfl
              · simp [IV.np, npL, npT]
              · rw [hgo]
            | false =>
              have hsw : swapEnd l X.2 Y.2 = bad (X.2 + 1) := by simp [swapEnd, hE, hneg]
              dsimp only at hgo; rw [hsw] at hgo hso
              simp only [go_sem, true_or, or_true, Int.cast_ofNat_Int, not_true_eq_false, true_implies, forall_const, not_false_eq_true, List.size_toArray, Array.size_empty, and_self, ne_eq, not_false_eq_true, Nat.reduceEqDiff, Nat.mul_one, List.contains_nil, List.contains_cons, Bool.false_or, Bool.or_false, false_implies, implies_true, beq_self_eq_true, Nat.reduceBEq, Int.ofNat_le, Int.reduceToNat, Int.reduceLT, Int.reduceLE, Int.reduceEq, Nat.reduceLeDiff, Nat.reduceLT, Nat.reduceEqDiff, Nat.reduceMul, Nat.reduceAdd, Nat.reduceBEq, List.length_cons, List.length_nil, String.reduceEq, hwx hnx.1]
              refine cal_eq (bad_sim _ (X.2 + 1) (by omega)) ?_
              simp only [go_sem, true_or, or_true, Int.cast_ofNat_Int, not_true_eq_false, true_implies, forall_const, not_false_eq_true, List.size_toArray, Array.size_empty, and_self, ne_eq, not_false_eq_true, Nat.reduceEqDiff, Nat.mul_one, List.contains_nil, List.contains_cons, Bool.false_or, Bool.or_false, false_implies, implies_true, beq_self_eq_true, Nat.reduceBEq, Int.ofNat_le, Int.reduceToNat, Int.reduceLT, Int.reduceLE, Int.reduceEq, Nat.reduceLeDiff, Nat.reduceLT, Nat.reduceEqDiff, Nat.reduceMul, Nat.reduceAdd, Nat.reduceBEq, List.length_cons, List.length_nil, String.reduceEq]
              refine drn_of ⟨[], [], []⟩ [0, 0, 0, 6, 15, 31] (by kernel_rfl) ?_
              simp only [go_sem, true_or, or_true, Int.cast_ofNat_Int, not_true_eq_false, true_implies, forall_const, not_false_eq_true, List.size_toArray, Array.size_empty, and_self, ne_eq, not_false_eq_true, Nat.reduceEqDiff, Nat.mul_one, List.contains_nil, List.contains_cons, Bool.false_or, Bool.or_false, false_implies, implies_true, beq_self_eq_true, Nat.reduceBEq, Int.ofNat_le, Int.reduceToNat, Int.reduceLT, Int.reduceLE, Int.reduceEq, Nat.reduceLeDiff, Nat.reduceLT, Nat.reduceEqDiff, Nat.reduceMul, Nat.reduceAdd, Nat.reduceBEq, List.length_cons, List.length_nil, String.reduceEq]
              refine cald_eq (eat_sim _ l (bad (X.2 + 1)) qSemi hso hl) ?_
              simp only [go_sem, true_or, or_true, Int.cast_ofNat_Int, not_true_eq_false, true_implies, forall_const, not_false_eq_true, List.size_toArray, Array.size_empty, and_self, ne_eq, not_false_eq_true, Nat.reduceEqDiff, Nat.mul_one, List.contains_nil, List.contains_cons, Bool.false_or, Bool.or_false, false_implies, implies_true, beq_self_eq_true, Nat.reduceBEq, Int.ofNat_le, Int.reduceToNat, Int.reduceLT, Int.reduceLE, Int.reduceEq, Nat.reduceLeDiff, Nat.reduceLT, Nat.reduceEqDiff, Nat.reduceMul, Nat.reduceAdd, Nat.reduceBEq, List.length_cons, List.length_nil, String.reduceEq]
              refine hQ .ret _ ?_; clear hQ Q; refine post_ret _ _ (.tup [.agg (encT (.mk 5 ByteArray.empty [X.1, Y.1] 0 [] [] (tk l n).p)), ii (eatP l (bad (X.2 + 1)) qSemi)]) ?_ ?_ (DropW.tail0 _ rfl) ⟨?_, rfl⟩
              · simp only [go_sem, true_or, or_true, Int.cast_ofNat_Int, not_true_eq_false, true_implies, forall_const, not_false_eq_true, List.size_toArray, Array.size_empty, and_self, ne_eq, not_false_eq_true, Nat.reduceEqDiff, Nat.mul_one, List.contains_nil, List.contains_cons, Bool.false_or, Bool.or_false, false_implies, implies_true, beq_self_eq_true, Nat.reduceBEq, Int.ofNat_le, Int.reduceToNat, Int.reduceLT, Int.reduceLE, Int.reduceEq, Nat.reduceLeDiff, Nat.reduceLT, Nat.reduceEqDiff, Nat.reduceMul, Nat.reduceAdd, Nat.reduceBEq, List.length_cons, List.length_nil, String.reduceEq, encT_eq, encE_eq, Stmt.k_mk, Stmt.s_mk, Stmt.x_mk, Stmt.n_mk, Stmt.b_mk, Stmt.e_mk, Stmt.p_mk, encEs, encTs, slE, slT, List.append_nil] <;> rfl
              · simp [IV.np, npL, npT]
              · rw [hgo]
          · have hsw : swapEnd l X.2 Y.2 = Y.2 := by simp [swapEnd, hneg]
            dsimp only at hgo; rw [hsw] at hgo
            simp only [go_sem, true_or, or_true, Int.cast_ofNat_Int, not_true_eq_false, true_implies, forall_const, not_false_eq_true, List.size_toArray, Array.size_empty, and_self, ne_eq, not_false_eq_true, Nat.reduceEqDiff, Nat.mul_one, List.contains_nil, List.contains_cons, Bool.false_or, Bool.or_false, false_implies, implies_true, beq_self_eq_true, Nat.reduceBEq, Int.ofNat_le, Int.reduceToNat, Int.reduceLT, Int.reduceLE, Int.reduceEq, Nat.reduceLeDiff, Nat.reduceLT, Nat.reduceEqDiff, Nat.reduceMul, Nat.reduceAdd, Nat.reduceBEq, List.length_cons, List.length_nil, String.reduceEq, hneg]
            refine drn_of ⟨[], [], []⟩ [0, 0, 0, 6, 15, 31] (by kernel_rfl) ?_
            simp only [go_sem, true_or, or_true, Int.cast_ofNat_Int, not_true_eq_false, true_implies, forall_const, not_false_eq_true, List.size_toArray, Array.size_empty, and_self, ne_eq, not_false_eq_true, Nat.reduceEqDiff, Nat.mul_one, List.contains_nil, List.contains_cons, Bool.false_or, Bool.or_false, false_implies, implies_true, beq_self_eq_true, Nat.reduceBEq, Int.ofNat_le, Int.reduceToNat, Int.reduceLT, Int.reduceLE, Int.reduceEq, Nat.reduceLeDiff, Nat.reduceLT, Nat.reduceEqDiff, Nat.reduceMul, Nat.reduceAdd, Nat.reduceBEq, List.length_cons, List.length_nil, String.reduceEq]
            refine cald_eq (eat_sim _ l Y.2 qSemi hy.1 hl) ?_
            simp only [go_sem, true_or, or_true, Int.cast_ofNat_Int, not_true_eq_false, true_implies, forall_const, not_false_eq_true, List.size_toArray, Array.size_empty, and_self, ne_eq, not_false_eq_true, Nat.reduceEqDiff, Nat.mul_one, List.contains_nil, List.contains_cons, Bool.false_or, Bool.or_false, false_implies, implies_true, beq_self_eq_true, Nat.reduceBEq, Int.ofNat_le, Int.reduceToNat, Int.reduceLT, Int.reduceLE, Int.reduceEq, Nat.reduceLeDiff, Nat.reduceLT, Nat.reduceEqDiff, Nat.reduceMul, Nat.reduceAdd, Nat.reduceBEq, List.length_cons, List.length_nil, String.reduceEq]
            refine hQ .ret _ ?_; clear hQ Q; refine post_ret _ _ (.tup [.agg (encT (.mk 5 ByteArray.empty [X.1, Y.1] 0 [] [] (tk l n).p)), ii (eatP l Y.2 qSemi)]) ?_ ?_ (DropW.tail0 _ rfl) ⟨?_, rfl⟩
            · simp only [go_sem, true_or, or_true, Int.cast_ofNat_Int, not_true_eq_false, true_implies, forall_const, not_false_eq_true, List.size_toArray, Array.size_empty, and_self, ne_eq, not_false_eq_true, Nat.reduceEqDiff, Nat.mul_one, List.contains_nil, List.contains_cons, Bool.false_or, Bool.or_false, false_implies, implies_true, beq_self_eq_true, Nat.reduceBEq, Int.ofNat_le, Int.reduceToNat, Int.reduceLT, Int.reduceLE, Int.reduceEq, Nat.reduceLeDiff, Nat.reduceLT, Nat.reduceEqDiff, Nat.reduceMul, Nat.reduceAdd, Nat.reduceBEq, List.length_cons, List.length_nil, String.reduceEq, encT_eq, encE_eq, Stmt.k_mk, Stmt.s_mk, Stmt.x_mk, Stmt.n_mk, Stmt.b_mk, Stmt.e_mk, Stmt.p_mk, encEs, encTs, slE, slT, List.append_nil] <;> rfl
            · simp [IV.np, npL, npT]
            · rw [hgo]
        | false =>
          rw [if_neg (by simp [hD]), if_neg (by simp [hA, hB, hC])] at hgo
          by_cases hneg : X.2 < 0
          · rw [if_pos hneg] at hgo
            simp only [go_sem, true_or, or_true, Int.cast_ofNat_Int, not_true_eq_false, true_implies, forall_const, not_false_eq_true, List.size_toArray, Array.size_empty, and_self, ne_eq, not_false_eq_true, Nat.reduceEqDiff, Nat.mul_one, List.contains_nil, List.contains_cons, Bool.false_or, Bool.or_false, false_implies, implies_true, beq_self_eq_true, Nat.reduceBEq, Int.ofNat_le, Int.reduceToNat, Int.reduceLT, Int.reduceLE, Int.reduceEq, Nat.reduceLeDiff, Nat.reduceLT, Nat.reduceEqDiff, Nat.reduceMul, Nat.reduceAdd, Nat.reduceBEq, List.length_cons, List.length_nil, String.reduceEq, hneg]
            refine hQ .ret _ ?_; clear hQ Q; refine post_ret _ _ (.tup [.agg (encT (.mk 0 ByteArray.empty [] 0 [] [] (tk l n).p)), ii X.2]) ?_ ?_ (DropW.tail0 _ rfl) ⟨?_, rfl⟩
            · simp only [go_sem, true_or, or_true, Int.cast_ofNat_Int, not_true_eq_false, true_implies, forall_const, not_false_eq_true, List.size_toArray, Array.size_empty, and_self, ne_eq, not_false_eq_true, Nat.reduceEqDiff, Nat.mul_one, List.contains_nil, List.contains_cons, Bool.false_or, Bool.or_false, false_implies, implies_true, beq_self_eq_true, Nat.reduceBEq, Int.ofNat_le, Int.reduceToNat, Int.reduceLT, Int.reduceLE, Int.reduceEq, Nat.reduceLeDiff, Nat.reduceLT, Nat.reduceEqDiff, Nat.reduceMul, Nat.reduceAdd, Nat.reduceBEq, List.length_cons, List.length_nil, String.reduceEq, encT_eq, encE_eq, Stmt.k_mk, Stmt.s_mk, Stmt.x_mk, Stmt.n_mk, Stmt.b_mk, Stmt.e_mk, Stmt.p_mk, encEs, encTs, slE, slT, List.append_nil] <;> rfl
            · simp [IV.np, npL, npT]
            · rw [hgo]
          · rw [if_neg hneg] at hgo
            simp only [go_sem, true_or, or_true, Int.cast_ofNat_Int, not_true_eq_false, true_implies, forall_const, not_false_eq_true, List.size_toArray, Array.size_empty, and_self, ne_eq, not_false_eq_true, Nat.reduceEqDiff, Nat.mul_one, List.contains_nil, List.contains_cons, Bool.false_or, Bool.or_false, false_implies, implies_true, beq_self_eq_true, Nat.reduceBEq, Int.ofNat_le, Int.reduceToNat, Int.reduceLT, Int.reduceLE, Int.reduceEq, Nat.reduceLeDiff, Nat.reduceLT, Nat.reduceEqDiff, Nat.reduceMul, Nat.reduceAdd, Nat.reduceBEq, List.length_cons, List.length_nil, String.reduceEq, hneg]
            refine drn_of ⟨[], [], []⟩ [0, 0, 2, 7, 15] (by kernel_rfl) ?_
            simp only [go_sem, true_or, or_true, Int.cast_ofNat_Int, not_true_eq_false, true_implies, forall_const, not_false_eq_true, List.size_toArray, Array.size_empty, and_self, ne_eq, not_false_eq_true, Nat.reduceEqDiff, Nat.mul_one, List.contains_nil, List.contains_cons, Bool.false_or, Bool.or_false, false_implies, implies_true, beq_self_eq_true, Nat.reduceBEq, Int.ofNat_le, Int.reduceToNat, Int.reduceLT, Int.reduceLE, Int.reduceEq, Nat.reduceLeDiff, Nat.reduceLT, Nat.reduceEqDiff, Nat.reduceMul, Nat.reduceAdd, Nat.reduceBEq, List.length_cons, List.length_nil, String.reduceEq]
            refine cald_eq (bad_sim _ X.2 (by omega)) ?_
            simp only [go_sem, true_or, or_true, Int.cast_ofNat_Int, not_true_eq_false, true_implies, forall_const, not_false_eq_true, List.size_toArray, Array.size_empty, and_self, ne_eq, not_false_eq_true, Nat.reduceEqDiff, Nat.mul_one, List.contains_nil, List.contains_cons, Bool.false_or, Bool.or_false, false_implies, implies_true, beq_self_eq_true, Nat.reduceBEq, Int.ofNat_le, Int.reduceToNat, Int.reduceLT, Int.reduceLE, Int.reduceEq, Nat.reduceLeDiff, Nat.reduceLT, Nat.reduceEqDiff, Nat.reduceMul, Nat.reduceAdd, Nat.reduceBEq, List.length_cons, List.length_nil, String.reduceEq]
            refine hQ .ret _ ?_; clear hQ Q; refine post_ret _ _ (.tup [.agg (encT (.mk 0 ByteArray.empty [] 0 [] [] (tk l n).p)), ii (bad X.2)]) ?_ ?_ (DropW.tail0 _ rfl) ⟨?_, rfl⟩
            · simp only [go_sem, true_or, or_true, Int.cast_ofNat_Int, not_true_eq_false, true_implies, forall_const, not_false_eq_true, List.size_toArray, Array.size_empty, and_self, ne_eq, not_false_eq_true, Nat.reduceEqDiff, Nat.mul_one, List.contains_nil, List.contains_cons, Bool.false_or, Bool.or_false, false_implies, implies_true, beq_self_eq_true, Nat.reduceBEq, Int.ofNat_le, Int.reduceToNat, Int.reduceLT, Int.reduceLE, Int.reduceEq, Nat.reduceLeDiff, Nat.reduceLT, Nat.reduceEqDiff, Nat.reduceMul, Nat.reduceAdd, Nat.reduceBEq, List.length_cons, List.length_nil, String.reduceEq, encT_eq, encE_eq, Stmt.k_mk, Stmt.s_mk, Stmt.x_mk, Stmt.n_mk, Stmt.b_mk, Stmt.e_mk, Stmt.p_mk, encEs, encTs, slE, slT, List.append_nil] <;> rfl
            · simp [IV.np, npL, npT]
            · rw [hgo]
end Go.Proofs.Ytphjldhdnmoolaa.A
/- The walks of some functions over the abstract machine. -/
namespace Go.Proofs.Ytphjldhdnmoolaa.A
open Go
theorem np_sh {nr : Nat} : SK.np nr .sh = true := rfl
theorem np_full {nr : Nat} : SK.np nr .full = true := rfl
def SB (l : List Tok) (f : Nat) : Prop := ∀ (m : Mem) (p depth : Int), okA l p → 0 ≤ p → 3 * ((l.length : Int) - p) ≤ f → 0 ≤ depth → depth ≤ 12 → Sim 76 [slK l, ii p, ii depth] m (fun r m' => r = .tup [.agg (encT (stmtF l f p depth).1), ii (stmtF l f p depth).2] ∧ m' = m)
def BB (l : List Tok) (f : Nat) : Prop := ∀ (m : Mem) (p depth : Int), okA l p → (p < 0 → 2 ≤ f) → (0 ≤ p → 3 * ((l.length : Int) - p) + 2 ≤ f) → 0 ≤ depth → depth ≤ 12 → Sim 93 [slK l, ii p, ii depth] m (fun r m' => r = .tup [slT (blockF l f p depth).1, ii (blockF l f p depth).2] ∧ m' = m)
set_option maxRecDepth 100000 in
set_option maxHeartbeats 4000000 in
theorem stmt_step {l : List Tok} (T : Toks l) (hsz : ∀ p, (tk l p).s.size < 900000) {f : Nat} (ih : BB l f) : SB l (f + 1) := by
  intro m p depth ho h0 hen hd hd'
  have hp := ho
  obtain ⟨h1, h2⟩ := ho
  have hl := T.lt
  refine Sim.ofS 143 [.cell 6 104, .tmp 7] Try.func76 rfl rfl rfl (by simp) fun wr => ?_
  simp only [go_sem, true_or, or_true, Int.cast_ofNat_Int, not_true_eq_false, true_implies, forall_const, not_false_eq_true, List.size_toArray, Array.size_empty, and_self, ne_eq, not_false_eq_true, Nat.reduceEqDiff, Nat.mul_one, List.contains_nil, List.contains_cons, Bool.false_or, Bool.or_false, false_implies, implies_true, beq_self_eq_true, Nat.reduceBEq, Int.ofNat_le, Int.reduceToNat, Int.reduceLT, Int.reduceLE, Int.reduceEq, Nat.reduceLeDiff, Nat.reduceLT, Nat.reduceEqDiff, Nat.reduceMul, Nat.reduceAdd, Nat.reduceBEq, List.length_cons, List.length_nil, String.reduceEq]
  obtain ⟨n, rfl⟩ := nat_of (p := p) (by omega)
  have hlt : n < l.length := by omega
  have hat := encK_at (tk_at hlt)
  have hl3 := encK_lt hlt
  have hw : IntKind.i64.wrap ((n : Int) + 1) = (n : Int) + 1 := wrap_small (by omega) (by omega)
  have hgo : stmtF l (f + 1) n depth = stmtF l (f + 1) n depth := rfl
  conv at hgo => rhs; unfold stmtF
  have blk : ∀ q, adv l (n + 1) q → (q < 0 → 2 ≤ f) ∧ (0 ≤ q → 3 * ((l.length : Int) - q) + 2 ≤ f) := by
    intro q hq; unfold adv okA at *; omega
  refine TS.of [] fun Q hQ => ?_
  simp only [go_sem, true_or, or_true, Int.cast_ofNat_Int, not_true_eq_false, true_implies, forall_const, not_false_eq_true, List.size_toArray, Array.size_empty, and_self, ne_eq, not_false_eq_true, Nat.reduceEqDiff, Nat.mul_one, List.contains_nil, List.contains_cons, Bool.false_or, Bool.or_false, false_implies, implies_true, beq_self_eq_true, Nat.reduceBEq, Int.ofNat_le, Int.reduceToNat, Int.reduceLT, Int.reduceLE, Int.reduceEq, Nat.reduceLeDiff, Nat.reduceLT, Nat.reduceEqDiff, Nat.reduceMul, Nat.reduceAdd, Nat.reduceBEq, List.length_cons, List.length_nil, String.reduceEq, h0, hlt, hat, hl3]
  refine cal_eq (is_sim _ l n qLB h2) ?_
  cases hA : isP l n qLB with
  | true =>
    rw [if_pos hA] at hgo
    have hsub := fun m => cell_sim T hsz m n depth hp h0 hd (by omega)
    generalize cellS l n depth = X at hgo hsub
    simp only [go_sem, true_or, or_true, Int.cast_ofNat_Int, not_true_eq_false, true_implies, forall_const, not_false_eq_true, List.size_toArray, Array.size_empty, and_self, ne_eq, not_false_eq_true, Nat.reduceEqDiff, Nat.mul_one, List.contains_nil, List.contains_cons, Bool.false_or, Bool.or_false, false_implies, implies_true, beq_self_eq_true, Nat.reduceBEq, Int.ofNat_le, Int.reduceToNat, Int.reduceLT, Int.reduceLE, Int.reduceEq, Nat.reduceLeDiff, Nat.reduceLT, Nat.reduceEqDiff, Nat.reduceMul, Nat.reduceAdd, Nat.reduceBEq, List.length_cons, List.length_nil, String.reduceEq]
    refine cal_eq (hsub _) ?_
    simp only [go_sem, true_or, or_true, Int.cast_ofNat_Int, not_true_eq_false, true_implies, forall_const, not_false_eq_true, List.size_toArray, Array.size_empty, and_self, ne_eq, not_false_eq_true, Nat.reduceEqDiff, Nat.mul_one, List.contains_nil, List.contains_cons, Bool.false_or, Bool.or_false, false_implies, implies_true, beq_self_eq_true, Nat.reduceBEq, Int.ofNat_le, Int.reduceToNat, Int.reduceLT, Int.reduceLE, Int.reduceEq, Nat.reduceLeDiff, Nat.reduceLT, Nat.reduceEqDiff, Nat.reduceMul, Nat.reduceAdd, Nat.reduceBEq, List.length_cons, List.length_nil, String.reduceEq, encT_eq]
    refine hQ .ret _ ?_; clear hQ Q; refine post_ret _ _ (.tup [.agg (encT X.1), ii X.2]) ?_ ?_ (DropW.tail0 _ rfl) ⟨?_, rfl⟩
    · simp only [go_sem, true_or, or_true, Int.cast_ofNat_Int, not_true_eq_false, true_implies, forall_const, not_false_eq_true, List.size_toArray, Array.size_empty, and_self, ne_eq, not_false_eq_true, Nat.reduceEqDiff, Nat.mul_one, List.contains_nil, List.contains_cons, Bool.false_or, Bool.or_false, false_implies, implies_true, beq_self_eq_true, Nat.reduceBEq, Int.ofNat_le, Int.reduceToNat, Int.reduceLT, Int.reduceLE, Int.reduceEq, Nat.reduceLeDiff, Nat.reduceLT, Nat.reduceEqDiff, Nat.reduceMul, Nat.reduceAdd, Nat.reduceBEq, List.length_cons, List.length_nil, String.reduceEq, encT_eq, encE_eq, Stmt.k_mk, Stmt.s_mk, Stmt.x_mk, Stmt.n_mk, Stmt.b_mk, Stmt.e_mk, Stmt.p_mk, encEs, encTs, slE, slT, List.append_nil] <;> rfl
    · simp [IV.np, npL, npT]
    · rw [hgo]
  | false =>
    rw [if_neg (by simp [hA])] at hgo
    simp only [go_sem, true_or, or_true, Int.cast_ofNat_Int, not_true_eq_false, true_implies, forall_const, not_false_eq_true, List.size_toArray, Array.size_empty, and_self, ne_eq, not_false_eq_true, Nat.reduceEqDiff, Nat.mul_one, List.contains_nil, List.contains_cons, Bool.false_or, Bool.or_false, false_implies, implies_true, beq_self_eq_true, Nat.reduceBEq, Int.ofNat_le, Int.reduceToNat, Int.reduceLT, Int.reduceLE, Int.reduceEq, Nat.reduceLeDiff, Nat.reduceLT, Nat.reduceEqDiff, Nat.reduceMul, Nat.reduceAdd, Nat.reduceBEq, List.length_cons, List.length_nil, String.reduceEq]
    refine cal_eq (is_sim _ l n qLet h2) ?_
    cases hB : isP l n qLet with
    | true =>
      rw [if_pos hB] at hgo
      have hn1 := (isP_lt T hp hB).2
      have ha1 := wordP_adv T hn1
      have ha2 := eatP_adv T (t := qSet) ha1.1
      have hsub := fun m => expr_sim T hsz m (eatP l (wordP l (n + 1)).2 qSet) 1 depth ha2.1 hd (by omega) (by omega) (by omega)
      have ha3 := expr_adv1 T (least := 1) (depth := depth) ha2.1
      generalize hX : expr l (eatP l (wordP l (n + 1)).2 qSet) 1 depth = X at hgo hsub ha3
      simp only [go_sem, true_or, or_true, Int.cast_ofNat_Int, not_true_eq_false, true_implies, forall_const, not_false_eq_true, List.size_toArray, Array.size_empty, and_self, ne_eq, not_false_eq_true, Nat.reduceEqDiff, Nat.mul_one, List.contains_nil, List.contains_cons, Bool.false_or, Bool.or_false, false_implies, implies_true, beq_self_eq_true, Nat.reduceBEq, Int.ofNat_le, Int.reduceToNat, Int.reduceLT, Int.reduceLE, Int.reduceEq, Nat.reduceLeDiff, Nat.reduceLT, Nat.reduceEqDiff, Nat.reduceMul, Nat.reduceAdd, Nat.reduceBEq, List.length_cons, List.length_nil, String.reduceEq, hw]
      refine cal_eq (wordP_sim _ l (n + 1) hn1 hl) ?_
      simp only [go_sem, true_or, or_true, Int.cast_ofNat_Int, not_true_eq_false, true_implies, forall_const, not_false_eq_true, List.size_toArray, Array.size_empty, and_self, ne_eq, not_false_eq_true, Nat.reduceEqDiff, Nat.mul_one, List.contains_nil, List.contains_cons, Bool.false_or, Bool.or_false, false_implies, implies_true, beq_self_eq_true, Nat.reduceBEq, Int.ofNat_le, Int.reduceToNat, Int.reduceLT, Int.reduceLE, Int.reduceEq, Nat.reduceLeDiff, Nat.reduceLT, Nat.reduceEqDiff, Nat.reduceMul, Nat.reduceAdd, Nat.reduceBEq, List.length_cons, List.length_nil, String.reduceEq]
      refine cal_eq (eat_sim _ l (wordP l (n + 1)).2 qSet ha1.1 hl) ?_
      simp only [go_sem, true_or, or_true, Int.cast_ofNat_Int, not_true_eq_false, true_implies, forall_const, not_false_eq_true, List.size_toArray, Array.size_empty, and_self, ne_eq, not_false_eq_true, Nat.reduceEqDiff, Nat.mul_one, List.contains_nil, List.contains_cons, Bool.false_or, Bool.or_false, false_implies, implies_true, beq_self_eq_true, Nat.reduceBEq, Int.ofNat_le, Int.reduceToNat, Int.reduceLT, Int.reduceLE, Int.reduceEq, Nat.reduceLeDiff, Nat.reduceLT, Nat.reduceEqDiff, Nat.reduceMul, Nat.reduceAdd, Nat.reduceBEq, List.length_cons, List.length_nil, String.reduceEq]
      refine cal_eq (hsub _) ?_
      simp only [go_sem, true_or, or_true, Int.cast_ofNat_Int, not_true_eq_false, true_implies, forall_const, not_false_eq_true, List.size_toArray, Array.size_empty, and_self, ne_eq, not_false_eq_true, Nat.reduceEqDiff, Nat.mul_one, List.contains_nil, List.contains_cons, Bool.false_or, Bool.or_false, false_implies, implies_true, beq_self_eq_true, Nat.reduceBEq, Int.ofNat_le, Int.reduceToNat, Int.reduceLT, Int.reduceLE, Int.reduceEq, Nat.reduceLeDiff, Nat.reduceLT, Nat.reduceEqDiff, Nat.reduceMul, Nat.reduceAdd, Nat.reduceBEq, List.length_cons, List.length_nil, String.reduceEq, encE_eq]
      refine drn_of ⟨[], [], []⟩ [0, 0, 0, 6, 15, 31] (by kernel_rfl) ?_
      simp only [go_sem, true_or, or_true, Int.cast_ofNat_Int, not_true_eq_false, true_implies, forall_const, not_false_eq_true, List.size_toArray, Array.size_empty, and_self, ne_eq, not_false_eq_true, Nat.reduceEqDiff, Nat.mul_one, List.contains_nil, List.contains_cons, Bool.false_or, Bool.or_false, false_implies, implies_true, beq_self_eq_true, Nat.reduceBEq, Int.ofNat_le, Int.reduceToNat, Int.reduceLT, Int.reduceLE, Int.reduceEq, Nat.reduceLeDiff, Nat.reduceLT, Nat.reduceEqDiff, Nat.reduceMul, Nat.reduceAdd, Nat.reduceBEq, List.length_cons, List.length_nil, String.reduceEq]
      refine cald_eq (eat_sim _ l X.2 qSemi ha3.1 hl) ?_
      simp only [go_sem, true_or, or_true, Int.cast_ofNat_Int, not_true_eq_false, true_implies, forall_const, not_false_eq_true, List.size_toArray, Array.size_empty, and_self, ne_eq, not_false_eq_true, Nat.reduceEqDiff, Nat.mul_one, List.contains_nil, List.contains_cons, Bool.false_or, Bool.or_false, false_implies, implies_true, beq_self_eq_true, Nat.reduceBEq, Int.ofNat_le, Int.reduceToNat, Int.reduceLT, Int.reduceLE, Int.reduceEq, Nat.reduceLeDiff, Nat.reduceLT, Nat.reduceEqDiff, Nat.reduceMul, Nat.reduceAdd, Nat.reduceBEq, List.length_cons, List.length_nil, String.reduceEq]
      refine hQ .ret _ ?_; clear hQ Q; refine post_ret _ _ (.tup [.agg (encT (.mk 1 (wordP l (n + 1)).1 [X.1] 0 [] [] (tk l n).p)), ii (eatP l X.2 qSemi)]) ?_ ?_ (DropW.tail0 _ rfl) ⟨?_, rfl⟩
      · simp only [go_sem, true_or, or_true, Int.cast_ofNat_Int, not_true_eq_false, true_implies, forall_const, not_false_eq_true, List.size_toArray, Array.size_empty, and_self, ne_eq, not_false_eq_true, Nat.reduceEqDiff, Nat.mul_one, List.contains_nil, List.contains_cons, Bool.false_or, Bool.or_false, false_implies, implies_true, beq_self_eq_true, Nat.reduceBEq, Int.ofNat_le, Int.reduceToNat, Int.reduceLT, Int.reduceLE, Int.reduceEq, Nat.reduceLeDiff, Nat.reduceLT, Nat.reduceEqDiff, Nat.reduceMul, Nat.reduceAdd, Nat.reduceBEq, List.length_cons, List.length_nil, String.reduceEq, encT_eq, encE_eq, Stmt.k_mk, Stmt.s_mk, Stmt.x_mk, Stmt.n_mk, Stmt.b_mk, Stmt.e_mk, Stmt.p_mk, encEs, encTs, slE, slT, List.append_nil] <;> rfl
      · simp [IV.np, npL, npT]
      · rw [hgo]
    | false =>
      rw [if_neg (by simp [hB])] at hgo
      simp only [go_sem, true_or, or_true, Int.cast_ofNat_Int, not_true_eq_false, true_implies, forall_const, not_false_eq_true, List.size_toArray, Array.size_empty, and_self, ne_eq, not_false_eq_true, Nat.reduceEqDiff, Nat.mul_one, List.contains_nil, List.contains_cons, Bool.false_or, Bool.or_false, false_implies, implies_true, beq_self_eq_true, Nat.reduceBEq, Int.ofNat_le, Int.reduceToNat, Int.reduceLT, Int.reduceLE, Int.reduceEq, Nat.reduceLeDiff, Nat.reduceLT, Nat.reduceEqDiff, Nat.reduceMul, Nat.reduceAdd, Nat.reduceBEq, List.length_cons, List.length_nil, String.reduceEq]
      refine cal_eq (is_sim _ l n qIf h2) ?_
      cases hC : isP l n qIf with
      | true =>
        rw [if_pos hC] at hgo
        have hn1 := (isP_lt T hp hC).2
        have hsub := fun m => expr_sim T hsz m (n + 1) 1 depth hn1 hd (by omega) (by omega) (by omega)
        have ha1 := expr_adv1 T (least := 1) (depth := depth) hn1
        generalize expr l (n + 1) 1 depth = X at hgo hsub ha1
        have hb1 := blk _ ha1
        have hsub2 := fun m => ih m X.2 depth ha1.1 hb1.1 hb1.2 hd hd'
        have ha2 := (stmt_adv T f).2.1 X.2 depth ha1.1
        generalize blockF l f X.2 depth = Y at hgo hsub2 ha2
        simp only [go_sem, true_or, or_true, Int.cast_ofNat_Int, not_true_eq_false, true_implies, forall_const, not_false_eq_true, List.size_toArray, Array.size_empty, and_self, ne_eq, not_false_eq_true, Nat.reduceEqDiff, Nat.mul_one, List.contains_nil, List.contains_cons, Bool.false_or, Bool.or_false, false_implies, implies_true, beq_self_eq_true, Nat.reduceBEq, Int.ofNat_le, Int.reduceToNat, Int.reduceLT, Int.reduceLE, Int.reduceEq, Nat.reduceLeDiff, Nat.reduceLT, Nat.reduceEqDiff, Nat.reduceMul, Nat.reduceAdd, Nat.reduceBEq, List.length_cons, List.length_nil, String.reduceEq, hw]
        refine cal_eq (hsub _) ?_
        simp only [go_sem, true_or, or_true, Int.cast_ofNat_Int, not_true_eq_false, true_implies, forall_const, not_false_eq_true, List.size_toArray, Array.size_empty, and_self, ne_eq, not_false_eq_true, Nat.reduceEqDiff, Nat.mul_one, List.contains_nil, List.contains_cons, Bool.false_or, Bool.or_false, false_implies, implies_true, beq_self_eq_true, Nat.reduceBEq, Int.ofNat_le, Int.reduceToNat, Int.reduceLT, Int.reduceLE, Int.reduceEq, Nat.reduceLeDiff, Nat.reduceLT, Nat.reduceEqDiff, Nat.reduceMul, Nat.reduceAdd, Nat.reduceBEq, List.length_cons, List.length_nil, String.reduceEq, encE_eq]
        refine cal_eq (hsub2 _) ?_
        simp only [go_sem, true_or, or_true, Int.cast_ofNat_Int, not_true_eq_false, true_implies, forall_const, not_false_eq_true, List.size_toArray, Array.size_empty, and_self, ne_eq, not_false_eq_true, Nat.reduceEqDiff, Nat.mul_one, List.contains_nil, List.contains_cons, Bool.false_or, Bool.or_false, false_implies, implies_true, beq_self_eq_true, Nat.reduceBEq, Int.ofNat_le, Int.reduceToNat, Int.reduceLT, Int.reduceLE, Int.reduceEq, Nat.reduceLeDiff, Nat.reduceLT, Nat.reduceEqDiff, Nat.reduceMul, Nat.reduceAdd, Nat.reduceBEq, List.length_cons, List.length_nil, String.reduceEq]
        refine cal_eq (is_sim _ l Y.2 qElse ha2.1.2) ?_
        cases hE : isP l Y.2 qElse with
        | true =>
          have hn2 := isP_lt T ha2.1 hE
          rw [if_pos hE] at hgo
          have hb2 := blk (Y.2 + 1) ⟨hn2.2, by have := ha1.trans ha2; unfold adv okA at *; omega⟩
          have hsub3 := fun m => ih m (Y.2 + 1) depth hn2.2 hb2.1 hb2.2 hd hd'
          generalize blockF l f (Y.2 + 1) depth = V at hgo hsub3
          have hw2 : IntKind.i64.wrap (Y.2 + 1) = Y.2 + 1 := wrap_small (by omega) (by have := hn2.2.2; omega)
          simp only [go_sem, true_or, or_true, Int.cast_ofNat_Int, not_true_eq_false, true_implies, forall_const, not_false_eq_true, List.size_toArray, Array.size_empty, and_self, ne_eq, not_false_eq_true, Nat.reduceEqDiff, Nat.mul_one, List.contains_nil, List.contains_cons, Bool.false_or, Bool.or_false, false_implies, implies_true, beq_self_eq_true, Nat.reduceBEq, Int.ofNat_le, Int.reduceToNat, Int.reduceLT, Int.reduceLE, Int.reduceEq, Nat.reduceLeDiff, Nat.reduceLT, Nat.reduceEqDiff, Nat.reduceMul, Nat.reduceAdd, Nat.reduceBEq, List.length_cons, List.length_nil, String.reduceEq, hw2]
          refine cal_eq (hsub3 _) ?_
          simp only [go_sem, true_or, or_true, Int.cast_ofNat_Int, not_true_eq_false, true_implies, forall_const, not_false_eq_true, List.size_toArray, Array.size_empty, and_self, ne_eq, not_false_eq_true, Nat.reduceEqDiff, Nat.mul_one, List.contains_nil, List.contains_cons, Bool.false_or, Bool.or_false, false_implies, implies_true, beq_self_eq_true, Nat.reduceBEq, Int.ofNat_le, Int.reduceToNat, Int.reduceLT, Int.reduceLE, Int.reduceEq, Nat.reduceLeDiff, Nat.reduceLT, Nat.reduceEqDiff, Nat.reduceMul, Nat.reduceAdd, Nat.reduceBEq, List.length_cons, List.length_nil, String.reduceEq]
          refine hQ .ret _ ?_; clear hQ Q; refine post_ret _ _ (.tup [.agg (encT (.mk 6 ByteArray.empty [X.1] 0 Y.1 V.1 (tk l n).p)), ii V.2]) ?_ ?_ (DropW.tail0 _ rfl) ⟨?_, rfl⟩
          · simp only [go_sem, true_or, or_true, Int.cast_ofNat_Int, not_true_eq_false, true_implies, forall_const, not_false_eq_true, List.size_toArray, Array.size_empty, and_self, ne_eq, not_false_eq_true, Nat.reduceEqDiff, Nat.mul_one, List.contains_nil, List.contains_cons, Bool.false_or, Bool.or_false, false_implies, implies_true, beq_self_eq_true, Nat.reduceBEq, Int.ofNat_le, Int.reduceToNat, Int.reduceLT, Int.reduceLE, Int.reduceEq, Nat.reduceLeDiff, Nat.reduceLT, Nat.reduceEqDiff, Nat.reduceMul, Nat.reduceAdd, Nat.reduceBEq, List.length_cons, List.length_nil, String.reduceEq, encT_eq, encE_eq, Stmt.k_mk, Stmt.s_mk, Stmt.x_mk, Stmt.n_mk, Stmt.b_mk, Stmt.e_mk, Stmt.p_mk, encEs, encTs, slE, slT, List.append_nil] <;> rfl
          · simp [IV.np, npL, npT]
          · rw [hgo]
        | false =>
          rw [if_neg (by simp [hE])] at hgo
          simp only [go_sem, true_or, or_true, Int.cast_ofNat_Int, not_true_eq_false, true_implies, forall_const, not_false_eq_true, List.size_toArray, Array.size_empty, and_self, ne_eq, not_false_eq_true, Nat.reduceEqDiff, Nat.mul_one, List.contains_nil, List.contains_cons, Bool.false_or, Bool.or_false, false_implies, implies_true, beq_self_eq_true, Nat.reduceBEq, Int.ofNat_le, Int.reduceToNat, Int.reduceLT, Int.reduceLE, Int.reduceEq, Nat.reduceLeDiff, Nat.reduceLT, Nat.reduceEqDiff, Nat.reduceMul, Nat.reduceAdd, Nat.reduceBEq, List.length_cons, List.length_nil, String.reduceEq]
          refine hQ .ret _ ?_; clear hQ Q; refine post_ret _ _ (.tup [.agg (encT (.mk 6 ByteArray.empty [X.1] 0 Y.1 [] (tk l n).p)), ii Y.2]) ?_ ?_ (DropW.tail0 _ rfl) ⟨?_, rfl⟩
          · simp only [go_sem, true_or, or_true, Int.cast_ofNat_Int, not_true_eq_false, true_implies, forall_const, not_false_eq_true, List.size_toArray, Array.size_empty, and_self, ne_eq, not_false_eq_true, Nat.reduceEqDiff, Nat.mul_one, List.contains_nil, List.contains_cons, Bool.false_or, Bool.or_false, false_implies, implies_true, beq_self_eq_true, Nat.reduceBEq, Int.ofNat_le, Int.reduceToNat, Int.reduceLT, Int.reduceLE, Int.reduceEq, Nat.reduceLeDiff, Nat.reduceLT, Nat.reduceEqDiff, Nat.reduceMul, Nat.reduceAdd, Nat.reduceBEq, List.length_cons, List.length_nil, String.reduceEq, encT_eq, encE_eq, Stmt.k_mk, Stmt.s_mk, Stmt.x_mk, Stmt.n_mk, Stmt.b_mk, Stmt.e_mk, Stmt.p_mk, encEs, encTs, slE, slT, List.append_nil] <;> rfl
          · simp [IV.np, npL, npT]
          · rw [hgo]
      | false =>
        rw [if_neg (by simp [hC])] at hgo
        simp only [go_sem, true_or, or_true, Int.cast_ofNat_Int, not_true_eq_false, true_implies, forall_const, not_false_eq_true, List.size_toArray, Array.size_empty, and_self, ne_eq, not_false_eq_true, Nat.reduceEqDiff, Nat.mul_one, List.contains_nil, List.contains_cons, Bool.false_or, Bool.or_false, false_implies, implies_true, beq_self_eq_true, Nat.reduceBEq, Int.ofNat_le, Int.reduceToNat, Int.reduceLT, Int.reduceLE, Int.reduceEq, Nat.reduceLeDiff, Nat.reduceLT, Nat.reduceEqDiff, Nat.reduceMul, Nat.reduceAdd, Nat.reduceBEq, List.length_cons, List.length_nil, String.reduceEq]
        refine cal_eq (is_sim _ l n qFor h2) ?_
        cases hD : isP l n qFor with
        | true =>
          rw [if_pos hD] at hgo
          have hn1 := (isP_lt T hp hD).2
          have ha1 := wordP_adv T hn1
          have ha2 := eatP_adv T (t := qIn) ha1.1
          have ha3 := eatP_adv T (t := qZero) ha2.1
          have ha4 := eatP_adv T (t := qDots) ha3.1
          have ha5 := numP_adv T ha4.1
          have hb1 := blk _ ((((ha1.trans ha2).trans ha3).trans ha4).trans ha5)
          have hsub2 := fun m => ih m (numP l (eatP l (eatP l (eatP l (wordP l (n + 1)).2 qIn) qZero) qDots)).2 depth ha5.1 hb1.1 hb1.2 hd hd'
          simp only [go_sem, true_or, or_true, Int.cast_ofNat_Int, not_true_eq_false, true_implies, forall_const, not_false_eq_true, List.size_toArray, Array.size_empty, and_self, ne_eq, not_false_eq_true, Nat.reduceEqDiff, Nat.mul_one, List.contains_nil, List.contains_cons, Bool.false_or, Bool.or_false, false_implies, implies_true, beq_self_eq_true, Nat.reduceBEq, Int.ofNat_le, Int.reduceToNat, Int.reduceLT, Int.reduceLE, Int.reduceEq, Nat.reduceLeDiff, Nat.reduceLT, Nat.reduceEqDiff, Nat.reduceMul, Nat.reduceAdd, Nat.reduceBEq, List.length_cons, List.length_nil, String.reduceEq, hw]
          refine cal_eq (wordP_sim _ l (n + 1) hn1 hl) ?_
          simp only [go_sem, true_or, or_true, Int.cast_ofNat_Int, not_true_eq_false, true_implies, forall_const, not_false_eq_true, List.size_toArray, Array.size_empty, and_self, ne_eq, not_false_eq_true, Nat.reduceEqDiff, Nat.mul_one, List.contains_nil, List.contains_cons, Bool.false_or, Bool.or_false, false_implies, implies_true, beq_self_eq_true, Nat.reduceBEq, Int.ofNat_le, Int.reduceToNat, Int.reduceLT, Int.reduceLE, Int.reduceEq, Nat.reduceLeDiff, Nat.reduceLT, Nat.reduceEqDiff, Nat.reduceMul, Nat.reduceAdd, Nat.reduceBEq, List.length_cons, List.length_nil, String.reduceEq]
          refine cal_eq (eat_sim _ l _ qIn ha1.1 hl) ?_
          simp only [go_sem, true_or, or_true, Int.cast_ofNat_Int, not_true_eq_false, true_implies, forall_const, not_false_eq_true, List.size_toArray, Array.size_empty, and_self, ne_eq, not_false_eq_true, Nat.reduceEqDiff, Nat.mul_one, List.contains_nil, List.contains_cons, Bool.false_or, Bool.or_false, false_implies, implies_true, beq_self_eq_true, Nat.reduceBEq, Int.ofNat_le, Int.reduceToNat, Int.reduceLT, Int.reduceLE, Int.reduceEq, Nat.reduceLeDiff, Nat.reduceLT, Nat.reduceEqDiff, Nat.reduceMul, Nat.reduceAdd, Nat.reduceBEq, List.length_cons, List.length_nil, String.reduceEq]
          refine cal_eq (eat_sim _ l _ qZero ha2.1 hl) ?_
          simp only [go_sem, true_or, or_true, Int.cast_ofNat_Int, not_true_eq_false, true_implies, forall_const, not_false_eq_true, List.size_toArray, Array.size_empty, and_self, ne_eq, not_false_eq_true, Nat.reduceEqDiff, Nat.mul_one, List.contains_nil, List.contains_cons, Bool.false_or, Bool.or_false, false_implies, implies_true, beq_self_eq_true, Nat.reduceBEq, Int.ofNat_le, Int.reduceToNat, Int.reduceLT, Int.reduceLE, Int.reduceEq, Nat.reduceLeDiff, Nat.reduceLT, Nat.reduceEqDiff, Nat.reduceMul, Nat.reduceAdd, Nat.reduceBEq, List.length_cons, List.length_nil, String.reduceEq]
          refine cal_eq (eat_sim _ l _ qDots ha3.1 hl) ?_
          simp only [go_sem, true_or, or_true, Int.cast_ofNat_Int, not_true_eq_false, true_implies, forall_const, not_false_eq_true, List.size_toArray, Array.size_empty, and_self, ne_eq, not_false_eq_true, Nat.reduceEqDiff, Nat.mul_one, List.contains_nil, List.contains_cons, Bool.false_or, Bool.or_false, false_implies, implies_true, beq_self_eq_true, Nat.reduceBEq, Int.ofNat_le, Int.reduceToNat, Int.reduceLT, Int.reduceLE, Int.reduceEq, Nat.reduceLeDiff, Nat.reduceLT, Nat.reduceEqDiff, Nat.reduceMul, Nat.reduceAdd, Nat.reduceBEq, List.length_cons, List.length_nil, String.reduceEq]
          refine cal_eq (numP_sim _ l _ ha4.1 hl (hsz _)) ?_
          simp only [go_sem, true_or, or_true, Int.cast_ofNat_Int, not_true_eq_false, true_implies, forall_const, not_false_eq_true, List.size_toArray, Array.size_empty, and_self, ne_eq, not_false_eq_true, Nat.reduceEqDiff, Nat.mul_one, List.contains_nil, List.contains_cons, Bool.false_or, Bool.or_false, false_implies, implies_true, beq_self_eq_true, Nat.reduceBEq, Int.ofNat_le, Int.reduceToNat, Int.reduceLT, Int.reduceLE, Int.reduceEq, Nat.reduceLeDiff, Nat.reduceLT, Nat.reduceEqDiff, Nat.reduceMul, Nat.reduceAdd, Nat.reduceBEq, List.length_cons, List.length_nil, String.reduceEq]
          refine cal_eq (hsub2 _) ?_
          simp only [go_sem, true_or, or_true, Int.cast_ofNat_Int, not_true_eq_false, true_implies, forall_const, not_false_eq_true, List.size_toArray, Array.size_empty, and_self, ne_eq, not_false_eq_true, Nat.reduceEqDiff, Nat.mul_one, List.contains_nil, List.contains_cons, Bool.false_or, Bool.or_false, false_implies, implies_true, beq_self_eq_true, Nat.reduceBEq, Int.ofNat_le, Int.reduceToNat, Int.reduceLT, Int.reduceLE, Int.reduceEq, Nat.reduceLeDiff, Nat.reduceLT, Nat.reduceEqDiff, Nat.reduceMul, Nat.reduceAdd, Nat.reduceBEq, List.length_cons, List.length_nil, String.reduceEq]
          generalize numP l (eatP l (eatP l (eatP l (wordP l (n + 1)).2 qIn) qZero) qDots) = W at hgo
          refine hQ .ret _ ?_; clear hQ Q; refine post_ret _ _ (.tup [.agg (encT (.mk 7 (wordP l (n + 1)).1 [] W.1 (blockF l f W.2 depth).1 [] (tk l n).p)), ii (blockF l f W.2 depth).2]) ?_ ?_ (DropW.tail0 _ rfl) ⟨?_, rfl⟩
          · simp only [go_sem, true_or, or_true, Int.cast_ofNat_Int, not_true_eq_false, true_implies, forall_const, not_false_eq_true, List.size_toArray, Array.size_empty, and_self, ne_eq, not_false_eq_true, Nat.reduceEqDiff, Nat.mul_one, List.contains_nil, List.contains_cons, Bool.false_or, Bool.or_false, false_implies, implies_true, beq_self_eq_true, Nat.reduceBEq, Int.ofNat_le, Int.reduceToNat, Int.reduceLT, Int.reduceLE, Int.reduceEq, Nat.reduceLeDiff, Nat.reduceLT, Nat.reduceEqDiff, Nat.reduceMul, Nat.reduceAdd, Nat.reduceBEq, List.length_cons, List.length_nil, String.reduceEq, encT_eq, encE_eq, Stmt.k_mk, Stmt.s_mk, Stmt.x_mk, Stmt.n_mk, Stmt.b_mk, Stmt.e_mk, Stmt.p_mk, encEs, encTs, slE, slT, List.append_nil] <;> rfl
          · simp [IV.np, npL, npT]
          · rw [hgo]
        | false =>
          rw [if_neg (by simp [hD])] at hgo
          simp only [go_sem, true_or, or_true, Int.cast_ofNat_Int, not_true_eq_false, true_implies, forall_const, not_false_eq_true, List.size_toArray, Array.size_empty, and_self, ne_eq, not_false_eq_true, Nat.reduceEqDiff, Nat.mul_one, List.contains_nil, List.contains_cons, Bool.false_or, Bool.or_false, false_implies, implies_true, beq_self_eq_true, Nat.reduceBEq, Int.ofNat_le, Int.reduceToNat, Int.reduceLT, Int.reduceLE, Int.reduceEq, Nat.reduceLeDiff, Nat.reduceLT, Nat.reduceEqDiff, Nat.reduceMul, Nat.reduceAdd, Nat.reduceBEq, List.length_cons, List.length_nil, String.reduceEq]
          refine drn_of ⟨[], [], []⟩ [0, 0, 2, 7, 15] (by kernel_rfl) ?_
          simp only [go_sem, true_or, or_true, Int.cast_ofNat_Int, not_true_eq_false, true_implies, forall_const, not_false_eq_true, List.size_toArray, Array.size_empty, and_self, ne_eq, not_false_eq_true, Nat.reduceEqDiff, Nat.mul_one, List.contains_nil, List.contains_cons, Bool.false_or, Bool.or_false, false_implies, implies_true, beq_self_eq_true, Nat.reduceBEq, Int.ofNat_le, Int.reduceToNat, Int.reduceLT, Int.reduceLE, Int.reduceEq, Nat.reduceLeDiff, Nat.reduceLT, Nat.reduceEqDiff, Nat.reduceMul, Nat.reduceAdd, Nat.reduceBEq, List.length_cons, List.length_nil, String.reduceEq]
          refine cald_eq (bad_sim _ n (by omega)) ?_
          simp only [go_sem, true_or, or_true, Int.cast_ofNat_Int, not_true_eq_false, true_implies, forall_const, not_false_eq_true, List.size_toArray, Array.size_empty, and_self, ne_eq, not_false_eq_true, Nat.reduceEqDiff, Nat.mul_one, List.contains_nil, List.contains_cons, Bool.false_or, Bool.or_false, false_implies, implies_true, beq_self_eq_true, Nat.reduceBEq, Int.ofNat_le, Int.reduceToNat, Int.reduceLT, Int.reduceLE, Int.reduceEq, Nat.reduceLeDiff, Nat.reduceLT, Nat.reduceEqDiff, Nat.reduceMul, Nat.reduceAdd, Nat.reduceBEq, List.length_cons, List.length_nil, String.reduceEq]
          refine hQ .ret _ ?_; clear hQ Q; refine post_ret _ _ (.tup [.agg (encT (.mk 0 ByteArray.empty [] 0 [] [] (tk l n).p)), ii (bad n)]) ?_ ?_ (DropW.tail0 _ rfl) ⟨?_, rfl⟩
          · simp only [go_sem, true_or, or_true, Int.cast_ofNat_Int, not_true_eq_false, true_implies, forall_const, not_false_eq_true, List.size_toArray, Array.size_empty, and_self, ne_eq, not_false_eq_true, Nat.reduceEqDiff, Nat.mul_one, List.contains_nil, List.contains_cons, Bool.false_or, Bool.or_false, false_implies, implies_true, beq_self_eq_true, Nat.reduceBEq, Int.ofNat_le, Int.reduceToNat, Int.reduceLT, Int.reduceLE, Int.reduceEq, Nat.reduceLeDiff, Nat.reduceLT, Nat.reduceEqDiff, Nat.reduceMul, Nat.reduceAdd, Nat.reduceBEq, List.length_cons, List.length_nil, String.reduceEq, encT_eq, encE_eq, Stmt.k_mk, Stmt.s_mk, Stmt.x_mk, Stmt.n_mk, Stmt.b_mk, Stmt.e_mk, Stmt.p_mk, encEs, encTs, slE, slT, List.append_nil] <;> rfl
          · simp [IV.np, npL, npT]
          · rw [hgo]
set_option maxRecDepth 100000 in
set_option maxHeartbeats 4000000 in
theorem block_step {l : List Tok} (T : Toks l) {f : Nat} (hf5 : f ≤ 5000000) (ih : ∀ g, g ≤ f → SB l g) : BB l (f + 1) := by
  intro m p depth ho hn hen hd hd'
  have hp := ho
  obtain ⟨h1, h2⟩ := ho
  have hl := T.lt
  refine Sim.ofS 48 [.tmp 6, .tmp 7] Try.func93 rfl rfl rfl (by simp) fun wr => ?_
  simp only [go_sem, true_or, or_true, Int.cast_ofNat_Int, not_true_eq_false, true_implies, forall_const, not_false_eq_true, List.size_toArray, Array.size_empty, and_self, ne_eq, not_false_eq_true, Nat.reduceEqDiff, Nat.mul_one, List.contains_nil, List.contains_cons, Bool.false_or, Bool.or_false, false_implies, implies_true, beq_self_eq_true, Nat.reduceBEq, Int.ofNat_le, Int.reduceToNat, Int.reduceLT, Int.reduceLE, Int.reduceEq, Nat.reduceLeDiff, Nat.reduceLT, Nat.reduceEqDiff, Nat.reduceMul, Nat.reduceAdd, Nat.reduceBEq, List.length_cons, List.length_nil, String.reduceEq]
  refine TS.seq (TS.of [] fun Q hQ => ?_)
  simp only [go_sem, true_or, or_true, Int.cast_ofNat_Int, not_true_eq_false, true_implies, forall_const, not_false_eq_true, List.size_toArray, Array.size_empty, and_self, ne_eq, not_false_eq_true, Nat.reduceEqDiff, Nat.mul_one, List.contains_nil, List.contains_cons, Bool.false_or, Bool.or_false, false_implies, implies_true, beq_self_eq_true, Nat.reduceBEq, Int.ofNat_le, Int.reduceToNat, Int.reduceLT, Int.reduceLE, Int.reduceEq, Nat.reduceLeDiff, Nat.reduceLT, Nat.reduceEqDiff, Nat.reduceMul, Nat.reduceAdd, Nat.reduceBEq, List.length_cons, List.length_nil, String.reduceEq]
  refine hQ .normal _ ?_; clear hQ Q
  have he := eatP_adv T (t := qLC) hp
  by_cases hc : (decide (12 ≤ depth) && isP l p qLC) = true
  · have hgo : blockF l (f + 1) p depth = ([], bad p) := by rw [blockF, if_pos hc]
    simp only [Bool.and_eq_true, decide_eq_true_eq] at hc
    have := (isP_lt T hp hc.2).1
    refine TS.seq (TS.of [] fun Q hQ => ?_)
    simp only [go_sem, true_or, or_true, Int.cast_ofNat_Int, not_true_eq_false, true_implies, forall_const, not_false_eq_true, List.size_toArray, Array.size_empty, and_self, ne_eq, not_false_eq_true, Nat.reduceEqDiff, Nat.mul_one, List.contains_nil, List.contains_cons, Bool.false_or, Bool.or_false, false_implies, implies_true, beq_self_eq_true, Nat.reduceBEq, Int.ofNat_le, Int.reduceToNat, Int.reduceLT, Int.reduceLE, Int.reduceEq, Nat.reduceLeDiff, Nat.reduceLT, Nat.reduceEqDiff, Nat.reduceMul, Nat.reduceAdd, Nat.reduceBEq, List.length_cons, List.length_nil, String.reduceEq, hc]
    refine cal_eq (is_sim _ l p qLC h2) ?_
    simp only [go_sem, true_or, or_true, Int.cast_ofNat_Int, not_true_eq_false, true_implies, forall_const, not_false_eq_true, List.size_toArray, Array.size_empty, and_self, ne_eq, not_false_eq_true, Nat.reduceEqDiff, Nat.mul_one, List.contains_nil, List.contains_cons, Bool.false_or, Bool.or_false, false_implies, implies_true, beq_self_eq_true, Nat.reduceBEq, Int.ofNat_le, Int.reduceToNat, Int.reduceLT, Int.reduceLE, Int.reduceEq, Nat.reduceLeDiff, Nat.reduceLT, Nat.reduceEqDiff, Nat.reduceMul, Nat.reduceAdd, Nat.reduceBEq, List.length_cons, List.length_nil, String.reduceEq, hc]
    refine cal_eq (bad_sim _ p (by omega)) ?_
    simp only [go_sem, true_or, or_true, Int.cast_ofNat_Int, not_true_eq_false, true_implies, forall_const, not_false_eq_true, List.size_toArray, Array.size_empty, and_self, ne_eq, not_false_eq_true, Nat.reduceEqDiff, Nat.mul_one, List.contains_nil, List.contains_cons, Bool.false_or, Bool.or_false, false_implies, implies_true, beq_self_eq_true, Nat.reduceBEq, Int.ofNat_le, Int.reduceToNat, Int.reduceLT, Int.reduceLE, Int.reduceEq, Nat.reduceLeDiff, Nat.reduceLT, Nat.reduceEqDiff, Nat.reduceMul, Nat.reduceAdd, Nat.reduceBEq, List.length_cons, List.length_nil, String.reduceEq]
    refine hQ .ret _ ?_; exact post_ret _ _ _ rfl rfl (DropW.refl _) ⟨by rw [hgo]; rfl, rfl⟩
  have hgo : blockF l (f + 1) p depth = loopB l f [] (eatP l p qLC) depth := by rw [blockF, if_neg hc]
  rw [hgo]
  generalize htgt : loopB l f [] (eatP l p qLC) depth = tgt
  have hdp : depth < 12 ∨ eatP l p qLC < 0 := by
    by_cases hd12 : depth < 12
    · exact .inl hd12
    · right
      have hi : isP l p qLC = false := by
        cases h : isP l p qLC with
        | false => rfl
        | true => exfalso; apply hc; rw [h]; simp; omega
      unfold eatP bad
      rw [hi]
      by_cases h0 : p < 0
      · simp [h0]
      · simp [h0]; omega
  refine TS.seq (TS.mono (Q := fun e s' => e = .normal ∧ (s'.t 0 = slK l ∧ s'.t 1 = ii p ∧ s'.t 2 = ii depth) ∧ s'.m = m) ?_ ?_)
  · by_cases hd12 : 12 ≤ depth
    · have hi : isP l p qLC = false := by simpa [hd12] using hc
      refine TS.of [] fun Q hQ => ?_
      simp only [go_sem, true_or, or_true, Int.cast_ofNat_Int, not_true_eq_false, true_implies, forall_const, not_false_eq_true, List.size_toArray, Array.size_empty, and_self, ne_eq, not_false_eq_true, Nat.reduceEqDiff, Nat.mul_one, List.contains_nil, List.contains_cons, Bool.false_or, Bool.or_false, false_implies, implies_true, beq_self_eq_true, Nat.reduceBEq, Int.ofNat_le, Int.reduceToNat, Int.reduceLT, Int.reduceLE, Int.reduceEq, Nat.reduceLeDiff, Nat.reduceLT, Nat.reduceEqDiff, Nat.reduceMul, Nat.reduceAdd, Nat.reduceBEq, List.length_cons, List.length_nil, String.reduceEq, hd12]
      refine cal_eq (is_sim _ l p qLC h2) ?_
      simp only [go_sem, true_or, or_true, Int.cast_ofNat_Int, not_true_eq_false, true_implies, forall_const, not_false_eq_true, List.size_toArray, Array.size_empty, and_self, ne_eq, not_false_eq_true, Nat.reduceEqDiff, Nat.mul_one, List.contains_nil, List.contains_cons, Bool.false_or, Bool.or_false, false_implies, implies_true, beq_self_eq_true, Nat.reduceBEq, Int.ofNat_le, Int.reduceToNat, Int.reduceLT, Int.reduceLE, Int.reduceEq, Nat.reduceLeDiff, Nat.reduceLT, Nat.reduceEqDiff, Nat.reduceMul, Nat.reduceAdd, Nat.reduceBEq, List.length_cons, List.length_nil, String.reduceEq, hi]
      refine hQ .normal _ ?_; clear hQ Q
      exact ⟨rfl, by simp [upd_apply, argsT], rfl⟩
    · refine TS.of [] fun Q hQ => ?_
      simp only [go_sem, true_or, or_true, Int.cast_ofNat_Int, not_true_eq_false, true_implies, forall_const, not_false_eq_true, List.size_toArray, Array.size_empty, and_self, ne_eq, not_false_eq_true, Nat.reduceEqDiff, Nat.mul_one, List.contains_nil, List.contains_cons, Bool.false_or, Bool.or_false, false_implies, implies_true, beq_self_eq_true, Nat.reduceBEq, Int.ofNat_le, Int.reduceToNat, Int.reduceLT, Int.reduceLE, Int.reduceEq, Nat.reduceLeDiff, Nat.reduceLT, Nat.reduceEqDiff, Nat.reduceMul, Nat.reduceAdd, Nat.reduceBEq, List.length_cons, List.length_nil, String.reduceEq, hd12]
      refine hQ .normal _ ?_; clear hQ Q
      exact ⟨rfl, by simp [upd_apply, argsT], rfl⟩
  rintro e s1 ⟨rfl, ⟨j0, j1, j2⟩, hm1⟩
  refine TS.seq (TS.of [] fun Q hQ => ?_)
  simp only [go_sem, true_or, or_true, Int.cast_ofNat_Int, not_true_eq_false, true_implies, forall_const, not_false_eq_true, List.size_toArray, Array.size_empty, and_self, ne_eq, not_false_eq_true, Nat.reduceEqDiff, Nat.mul_one, List.contains_nil, List.contains_cons, Bool.false_or, Bool.or_false, false_implies, implies_true, beq_self_eq_true, Nat.reduceBEq, Int.ofNat_le, Int.reduceToNat, Int.reduceLT, Int.reduceLE, Int.reduceEq, Nat.reduceLeDiff, Nat.reduceLT, Nat.reduceEqDiff, Nat.reduceMul, Nat.reduceAdd, Nat.reduceBEq, List.length_cons, List.length_nil, String.reduceEq, j0, j1, j2, hm1]
  refine cal_eq (eat_sim _ l p qLC hp hl) ?_
  simp only [go_sem, true_or, or_true, Int.cast_ofNat_Int, not_true_eq_false, true_implies, forall_const, not_false_eq_true, List.size_toArray, Array.size_empty, and_self, ne_eq, not_false_eq_true, Nat.reduceEqDiff, Nat.mul_one, List.contains_nil, List.contains_cons, Bool.false_or, Bool.or_false, false_implies, implies_true, beq_self_eq_true, Nat.reduceBEq, Int.ofNat_le, Int.reduceToNat, Int.reduceLT, Int.reduceLE, Int.reduceEq, Nat.reduceLeDiff, Nat.reduceLT, Nat.reduceEqDiff, Nat.reduceMul, Nat.reduceAdd, Nat.reduceBEq, List.length_cons, List.length_nil, String.reduceEq]
  refine hQ .normal _ ?_; clear hQ Q
  refine TS.seq (TS.of [] fun Q hQ => ?_)
  simp only [go_sem, true_or, or_true, Int.cast_ofNat_Int, not_true_eq_false, true_implies, forall_const, not_false_eq_true, List.size_toArray, Array.size_empty, and_self, ne_eq, not_false_eq_true, Nat.reduceEqDiff, Nat.mul_one, List.contains_nil, List.contains_cons, Bool.false_or, Bool.or_false, false_implies, implies_true, beq_self_eq_true, Nat.reduceBEq, Int.ofNat_le, Int.reduceToNat, Int.reduceLT, Int.reduceLE, Int.reduceEq, Nat.reduceLeDiff, Nat.reduceLT, Nat.reduceEqDiff, Nat.reduceMul, Nat.reduceAdd, Nat.reduceBEq, List.length_cons, List.length_nil, String.reduceEq]
  refine hQ .normal _ ?_; clear hQ Q
  refine TS.seq (TS.block (TS.loop (α := Nat × List Stmt × Int) (fun x => [(0, slK l), (1, ii x.2.2), (2, ii depth), (8, .sl (accK m.rows.length 104 x.2.1.length) x.2.1.length (encTs x.2.1))]) (fun x => accM m x.2.1.length) (fun x => x.1 ≤ f ∧ okA l x.2.2 ∧ ((x.2.2 < 0 → 1 ≤ x.1) ∧ (0 ≤ x.2.2 → 3 * ((l.length : Int) - x.2.2) + 1 ≤ x.1)) ∧ (depth < 12 ∨ x.2.2 < 0) ∧ x.2.1.length ≤ f - x.1 ∧ loopB l x.1 x.2.1 x.2.2 depth = tgt) (fun x => x.1) (f, [], eatP l p qLC) (by simp) ⟨by simp [Has, upd_apply, j0, j1, j2, accK, encTs], rfl, ⟨Nat.le_refl _, he.1, by dsimp only; unfold adv okA at *; omega, hdp, by simp, htgt⟩⟩ ?_))
  clear htgt
  rintro ⟨g, acc, q⟩ st hH hm ⟨hgf, hq, hge, hdq, hal, hcc⟩
  dsimp only at hH hm hgf hq hge hdq hal hcc
  simp only [Has, List.mem_cons, List.not_mem_nil, or_false, forall_eq_or_imp, forall_eq] at hH; obtain ⟨i0, i1, i2, i8⟩ := hH
  obtain ⟨g, rfl⟩ : ∃ j, g = j + 1 := ⟨g - 1, by unfold okA at hq; omega⟩
  obtain ⟨hq1, hq2⟩ := id hq
  rw [loopB] at hcc
  by_cases hrun : (decide (0 ≤ q) && !isP l q qRC) = true
  · rw [if_pos hrun] at hcc
    simp only [Bool.and_eq_true, Bool.not_eq_true', decide_eq_true_eq] at hrun
    obtain ⟨hq0, hi⟩ := hrun
    have hsub := fun m => ih g (by omega) m q (depth + 1) hq hq0 (by omega) (by omega) (by omega)
    have ha := (stmt_adv T g).1 q (depth + 1) hq hq0
    generalize stmtF l g q (depth + 1) = X at hcc hsub ha
    have hw : IntKind.i64.wrap (depth + 1) = depth + 1 := wrap_small (by omega) (by omega)
    have hlen : (encTs acc).length = acc.length * 7 := encTs_length acc
    have happ := acc_app m 104 acc.length 1 (by decide)
    have hbound : (acc.length + 1) * 112 ≤ 140737488355328 := by omega
    refine TS.of [] fun Q hQ => ?_
    simp only [go_sem, true_or, or_true, Int.cast_ofNat_Int, not_true_eq_false, true_implies, forall_const, not_false_eq_true, List.size_toArray, Array.size_empty, and_self, ne_eq, not_false_eq_true, Nat.reduceEqDiff, Nat.mul_one, List.contains_nil, List.contains_cons, Bool.false_or, Bool.or_false, false_implies, implies_true, beq_self_eq_true, Nat.reduceBEq, Int.ofNat_le, Int.reduceToNat, Int.reduceLT, Int.reduceLE, Int.reduceEq, Nat.reduceLeDiff, Nat.reduceLT, Nat.reduceEqDiff, Nat.reduceMul, Nat.reduceAdd, Nat.reduceBEq, List.length_cons, List.length_nil, String.reduceEq, i0, i1, i2, i8, hm, hq0]
    refine cal_eq (is_sim _ l q qRC hq2) ?_
    simp only [go_sem, true_or, or_true, Int.cast_ofNat_Int, not_true_eq_false, true_implies, forall_const, not_false_eq_true, List.size_toArray, Array.size_empty, and_self, ne_eq, not_false_eq_true, Nat.reduceEqDiff, Nat.mul_one, List.contains_nil, List.contains_cons, Bool.false_or, Bool.or_false, false_implies, implies_true, beq_self_eq_true, Nat.reduceBEq, Int.ofNat_le, Int.reduceToNat, Int.reduceLT, Int.reduceLE, Int.reduceEq, Nat.reduceLeDiff, Nat.reduceLT, Nat.reduceEqDiff, Nat.reduceMul, Nat.reduceAdd, Nat.reduceBEq, List.length_cons, List.length_nil, String.reduceEq, hi, i0, i1, i2, i8, hm, hw]
    refine cal_eq (hsub _) ?_
    simp only [go_sem, true_or, or_true, Int.cast_ofNat_Int, not_true_eq_false, true_implies, forall_const, not_false_eq_true, List.size_toArray, Array.size_empty, and_self, ne_eq, not_false_eq_true, Nat.reduceEqDiff, Nat.mul_one, List.contains_nil, List.contains_cons, Bool.false_or, Bool.or_false, false_implies, implies_true, beq_self_eq_true, Nat.reduceBEq, Int.ofNat_le, Int.reduceToNat, Int.reduceLT, Int.reduceLE, Int.reduceEq, Nat.reduceLeDiff, Nat.reduceLT, Nat.reduceEqDiff, Nat.reduceMul, Nat.reduceAdd, Nat.reduceBEq, List.length_cons, List.length_nil, String.reduceEq, encT_eq, i0, i1, i2, i8, hlen, happ, hbound]
    refine hQ .normal _ ?_; clear hQ Q
    have hl1 : (acc ++ [X.1] : List Stmt).length = acc.length + 1 := by simp
    refine ⟨_, _, (g, acc ++ [X.1], X.2), DropW.acc [_] rfl rfl ?_ ?_, ?_, ⟨by dsimp only; omega, by dsimp only; exact ha.1, by dsimp only; unfold adv okA at *; omega, ?_, by dsimp only; rw [hl1]; omega, hcc⟩, by dsimp only; omega⟩
    · dsimp only; rw [hl1]
    · dsimp only; rw [hl1]; exact accM_len m _ _
    · dsimp only
      rw [hl1]
      simp [upd_apply, i0, i2, encTs_app, encTs, encT_eq X.1, IV.np, np_sh, accK_np, npK, npL_app, npTs, npEs, npL]
    · dsimp only; unfold adv at ha; omega
  · rw [if_neg hrun] at hcc
    have hend := eatP_adv T (t := qRC) hq
    by_cases hq0 : 0 ≤ q
    · have hi : isP l q qRC = true := by simpa [hq0] using hrun
      refine TS.of [] fun Q hQ => ?_
      simp only [go_sem, true_or, or_true, Int.cast_ofNat_Int, not_true_eq_false, true_implies, forall_const, not_false_eq_true, List.size_toArray, Array.size_empty, and_self, ne_eq, not_false_eq_true, Nat.reduceEqDiff, Nat.mul_one, List.contains_nil, List.contains_cons, Bool.false_or, Bool.or_false, false_implies, implies_true, beq_self_eq_true, Nat.reduceBEq, Int.ofNat_le, Int.reduceToNat, Int.reduceLT, Int.reduceLE, Int.reduceEq, Nat.reduceLeDiff, Nat.reduceLT, Nat.reduceEqDiff, Nat.reduceMul, Nat.reduceAdd, Nat.reduceBEq, List.length_cons, List.length_nil, String.reduceEq, i0, i1, i2, i8, hm, hq0]
      refine cal_eq (is_sim _ l q qRC hq2) ?_
      simp only [go_sem, true_or, or_true, Int.cast_ofNat_Int, not_true_eq_false, true_implies, forall_const, not_false_eq_true, List.size_toArray, Array.size_empty, and_self, ne_eq, not_false_eq_true, Nat.reduceEqDiff, Nat.mul_one, List.contains_nil, List.contains_cons, Bool.false_or, Bool.or_false, false_implies, implies_true, beq_self_eq_true, Nat.reduceBEq, Int.ofNat_le, Int.reduceToNat, Int.reduceLT, Int.reduceLE, Int.reduceEq, Nat.reduceLeDiff, Nat.reduceLT, Nat.reduceEqDiff, Nat.reduceMul, Nat.reduceAdd, Nat.reduceBEq, List.length_cons, List.length_nil, String.reduceEq, hi, i0, i1, i2, i8, hm]
      refine hQ (.exit 0) _ ?_; clear hQ Q
      refine TS.of [] fun Q hQ => ?_
      simp only [go_sem, true_or, or_true, Int.cast_ofNat_Int, not_true_eq_false, true_implies, forall_const, not_false_eq_true, List.size_toArray, Array.size_empty, and_self, ne_eq, not_false_eq_true, Nat.reduceEqDiff, Nat.mul_one, List.contains_nil, List.contains_cons, Bool.false_or, Bool.or_false, false_implies, implies_true, beq_self_eq_true, Nat.reduceBEq, Int.ofNat_le, Int.reduceToNat, Int.reduceLT, Int.reduceLE, Int.reduceEq, Nat.reduceLeDiff, Nat.reduceLT, Nat.reduceEqDiff, Nat.reduceMul, Nat.reduceAdd, Nat.reduceBEq, List.length_cons, List.length_nil, String.reduceEq, i0, i1, i2, i8, hm]
      refine cal_eq (eat_sim _ l q qRC hq hl) ?_
      simp only [go_sem, true_or, or_true, Int.cast_ofNat_Int, not_true_eq_false, true_implies, forall_const, not_false_eq_true, List.size_toArray, Array.size_empty, and_self, ne_eq, not_false_eq_true, Nat.reduceEqDiff, Nat.mul_one, List.contains_nil, List.contains_cons, Bool.false_or, Bool.or_false, false_implies, implies_true, beq_self_eq_true, Nat.reduceBEq, Int.ofNat_le, Int.reduceToNat, Int.reduceLT, Int.reduceLE, Int.reduceEq, Nat.reduceLeDiff, Nat.reduceLT, Nat.reduceEqDiff, Nat.reduceMul, Nat.reduceAdd, Nat.reduceBEq, List.length_cons, List.length_nil, String.reduceEq]
      refine hQ .ret _ ?_; clear hQ Q
      refine post_ret m.objs.length m.rows.length (.tup [slT acc, ii (eatP l q qRC)]) ?_ ?_ ?_ ⟨by rw [← hcc], rfl⟩
      · simp only [go_sem, true_or, or_true, Int.cast_ofNat_Int, not_true_eq_false, true_implies, forall_const, not_false_eq_true, List.size_toArray, Array.size_empty, and_self, ne_eq, not_false_eq_true, Nat.reduceEqDiff, Nat.mul_one, List.contains_nil, List.contains_cons, Bool.false_or, Bool.or_false, false_implies, implies_true, beq_self_eq_true, Nat.reduceBEq, Int.ofNat_le, Int.reduceToNat, Int.reduceLT, Int.reduceLE, Int.reduceEq, Nat.reduceLeDiff, Nat.reduceLT, Nat.reduceEqDiff, Nat.reduceMul, Nat.reduceAdd, Nat.reduceBEq, List.length_cons, List.length_nil, String.reduceEq]
      · simp [IV.np, npL, SK.np, npTs]
      · exact DropW.rows_ (if acc.length = 0 then [] else [acc.length]) rfl (by unfold accM; dsimp only; split <;> simp)
    · refine TS.of [] fun Q hQ => ?_
      simp only [go_sem, true_or, or_true, Int.cast_ofNat_Int, not_true_eq_false, true_implies, forall_const, not_false_eq_true, List.size_toArray, Array.size_empty, and_self, ne_eq, not_false_eq_true, Nat.reduceEqDiff, Nat.mul_one, List.contains_nil, List.contains_cons, Bool.false_or, Bool.or_false, false_implies, implies_true, beq_self_eq_true, Nat.reduceBEq, Int.ofNat_le, Int.reduceToNat, Int.reduceLT, Int.reduceLE, Int.reduceEq, Nat.reduceLeDiff, Nat.reduceLT, Nat.reduceEqDiff, Nat.reduceMul, Nat.reduceAdd, Nat.reduceBEq, List.length_cons, List.length_nil, String.reduceEq, i0, i1, i2, i8, hm, hq0]
      refine hQ (.exit 0) _ ?_; clear hQ Q
      refine TS.of [] fun Q hQ => ?_
      simp only [go_sem, true_or, or_true, Int.cast_ofNat_Int, not_true_eq_false, true_implies, forall_const, not_false_eq_true, List.size_toArray, Array.size_empty, and_self, ne_eq, not_false_eq_true, Nat.reduceEqDiff, Nat.mul_one, List.contains_nil, List.contains_cons, Bool.false_or, Bool.or_false, false_implies, implies_true, beq_self_eq_true, Nat.reduceBEq, Int.ofNat_le, Int.reduceToNat, Int.reduceLT, Int.reduceLE, Int.reduceEq, Nat.reduceLeDiff, Nat.reduceLT, Nat.reduceEqDiff, Nat.reduceMul, Nat.reduceAdd, Nat.reduceBEq, List.length_cons, List.length_nil, String.reduceEq, i0, i1, i2, i8, hm]
      refine cal_eq (eat_sim _ l q qRC hq hl) ?_
      simp only [go_sem, true_or, or_true, Int.cast_ofNat_Int, not_true_eq_false, true_implies, forall_const, not_false_eq_true, List.size_toArray, Array.size_empty, and_self, ne_eq, not_false_eq_true, Nat.reduceEqDiff, Nat.mul_one, List.contains_nil, List.contains_cons, Bool.false_or, Bool.or_false, false_implies, implies_true, beq_self_eq_true, Nat.reduceBEq, Int.ofNat_le, Int.reduceToNat, Int.reduceLT, Int.reduceLE, Int.reduceEq, Nat.reduceLeDiff, Nat.reduceLT, Nat.reduceEqDiff, Nat.reduceMul, Nat.reduceAdd, Nat.reduceBEq, List.length_cons, List.length_nil, String.reduceEq]
      refine hQ .ret _ ?_; clear hQ Q
      refine post_ret m.objs.length m.rows.length (.tup [slT acc, ii (eatP l q qRC)]) ?_ ?_ ?_ ⟨by rw [← hcc], rfl⟩
      · simp only [go_sem, true_or, or_true, Int.cast_ofNat_Int, not_true_eq_false, true_implies, forall_const, not_false_eq_true, List.size_toArray, Array.size_empty, and_self, ne_eq, not_false_eq_true, Nat.reduceEqDiff, Nat.mul_one, List.contains_nil, List.contains_cons, Bool.false_or, Bool.or_false, false_implies, implies_true, beq_self_eq_true, Nat.reduceBEq, Int.ofNat_le, Int.reduceToNat, Int.reduceLT, Int.reduceLE, Int.reduceEq, Nat.reduceLeDiff, Nat.reduceLT, Nat.reduceEqDiff, Nat.reduceMul, Nat.reduceAdd, Nat.reduceBEq, List.length_cons, List.length_nil, String.reduceEq]
      · simp [IV.np, npL, SK.np, npTs]
      · exact DropW.rows_ (if acc.length = 0 then [] else [acc.length]) rfl (by unfold accM; dsimp only; split <;> simp)
theorem stmt_all {l : List Tok} (T : Toks l) (hsz : ∀ p, (tk l p).s.size < 900000) : ∀ f, f ≤ 5000000 → (∀ g, g ≤ f → SB l g) ∧ BB l f := by
  have z : SB l 0 ∧ BB l 0 := by
    refine ⟨fun m p depth ho h0 hen => ?_, fun m p depth ho hn hen => ?_⟩ <;> (exfalso; unfold okA at *; omega)
  intro f
  induction f with
  | zero => exact fun _ => ⟨fun g hg => by obtain rfl : g = 0 := by omega
                                           exact z.1, z.2⟩
  | succ f ih =>
    intro hf
    obtain ⟨h1, h2⟩ := ih (by omega)
    refine ⟨fun g hg => ?_, block_step T (by omega) h1⟩
    by_cases e : g = f + 1
    · subst e; exact stmt_step T hsz h2
    · exact h1 g (by omega)
theorem stmt_sim {l : List Tok} (T : Toks l) (hsz : ∀ p, (tk l p).s.size < 900000) (m : Mem) (p : Int) (ho : okA l p) (h0 : 0 ≤ p) : Sim 76 [slK l, ii p, ii 1] m (fun r m' => r = .tup [.agg (encT (stmt l p 1).1), ii (stmt l p 1).2] ∧ m' = m) :=
  (stmt_all T hsz (fuelS l) (by have := T.lt; unfold fuelS; omega)).1 _ (Nat.le_refl _) m p 1 ho h0 (by unfold fuelS okA at *; omega) (by omega) (by omega)
end Go.Proofs.Ytphjldhdnmoolaa.A
/- The walks of some functions over the abstract machine. -/
namespace Go.Proofs.Ytphjldhdnmoolaa.A
open Go
theorem accM_lt {m : Mem} {n : Nat} (h : n ≠ 0) : m.rows.length < (accM m n).rows.length := by unfold accM; dsimp only; rw [if_neg h]; simp
theorem accM_ge {m : Mem} {n : Nat} : m.rows.length ≤ (accM m n).rows.length := by unfold accM; dsimp only; split <;> simp
theorem accK_np2 {r0 n nr : Nat} {e : TypeId} (h : n ≠ 0 → r0 < nr) : (accK r0 e n).np nr = true := by
  unfold accK; split
  · rfl
  · simp only [SK.np, decide_eq_true_eq]; exact h (by assumption)
theorem accM_take (m : Mem) (n : Nat) : (accM m n).rows.take m.rows.length = m.rows := by unfold accM; dsimp only; split <;> simp
abbrev F0 : IV := .sl .full 0 []
abbrev zD : List IV := [ss ByteArray.empty, F0, F0, F0, F0]
abbrev slP (r0 : Nat) (l : List Bytes) : IV := .sl (accK r0 9 l.length) l.length (l.map (IV.v <| .string ·))
abbrev slN (r0 : Nat) (l : List Expr) : IV := .sl (accK r0 99 l.length) l.length (encEs l)
abbrev slB (r0 : Nat) (l : List Stmt) : IV := .sl (accK r0 104 l.length) l.length (encTs l)
theorem slP_app {r0 : Nat} {l : List Bytes} {x : Bytes} : slP r0 (l ++ [x]) = .sl (accK r0 9 (l.length + 1)) (l.length + 1) (l.map (IV.v <| .string ·) ++ [ss x]) := by simp [slP]
theorem slN_app {r0 : Nat} {l : List Expr} {x : Expr} : slN r0 (l ++ [x]) = .sl (accK r0 99 (l.length + 1)) (l.length + 1) (encEs l ++ [ii x.k, ii x.n, ss x.s, slE x.a, ii x.p]) := by simp [slN, encEs_app, encEs, encE_eq]
theorem slB_app {r0 : Nat} {l : List Stmt} {x : Stmt} : slB r0 (l ++ [x]) = .sl (accK r0 104 (l.length + 1)) (l.length + 1) (encTs l ++ [ii x.k, ss x.s, slE x.x, ii x.n, slT x.b, slT x.e, ii x.p]) := by simp [slB, encTs_app, encTs, encT_eq]
theorem accK_0 {r0 : Nat} {e : TypeId} : accK r0 e 0 = .full := rfl
theorem loopP_adv {l : List Tok} (T : Toks l) : ∀ f acc p b, okA l p → okA l (loopP l f acc p b).2
  | 0, _, _, _, _ => okA_neg T
  | f + 1, acc, p, b, ho => by
    rw [loopP]
    have hw := wordP_adv T ho
    split
    · split
      · exact loopP_adv T f _ _ _ (isP_lt T hw.1 (by assumption)).2
      · exact hw.1
    · exact ho
theorem loopN_adv {l : List Tok} (T : Toks l) : ∀ f acc p, okA l p → okA l (loopN l f acc p).2
  | 0, _, _, _ => okA_neg T
  | f + 1, acc, p, ho => by
    rw [loopN]
    split
    · have h1 := expr_adv1 T (least := 1) (depth := 1) (isP_lt T ho (by assumption)).2
      exact loopN_adv T f _ _ (eatP_adv T h1.1).1
    · exact ho
theorem loopD_adv {l : List Tok} (T : Toks l) : ∀ f acc p, okA l p → okA l (loopD l f acc p).2
  | 0, _, _, _ => okA_neg T
  | f + 1, acc, p, ho => by
    rw [loopD]
    split
    · rename_i h
      simp only [Bool.and_eq_true, decide_eq_true_eq] at h
      exact loopD_adv T f _ _ (stmt_adv1 T ho h.1).1
    · exact ho
theorem fuelN {l : List Tok} {p : Int} (ho : okA l p) : 0 ≤ p → (l.length : Int) - p ≤ (l.length + 1 : Nat) := by unfold okA at ho; omega
set_option maxRecDepth 100000 in
set_option maxHeartbeats 4000000 in
theorem defP_sim {l : List Tok} (T : Toks l) (hsz : ∀ p, (tk l p).s.size < 900000) (m : Mem) : Sim 46 [slK l] m (fun r m' => r = .tup [.agg (encD (defP l).1), ii (defP l).2] ∧ m' = m) := by
  have hl := T.lt
  have hl0 := T.pos
  refine Sim.ofS 133 [.cell 2 27, .tmp 3] Try.func46 rfl rfl rfl (by simp) fun wr => ?_
  simp only [go_sem, true_or, or_true, Int.cast_ofNat_Int, not_true_eq_false, true_implies, forall_const, not_false_eq_true, List.size_toArray, Array.size_empty, and_self, ne_eq, not_false_eq_true, Nat.reduceEqDiff, Nat.mul_one, List.contains_nil, List.contains_cons, Bool.false_or, Bool.or_false, false_implies, implies_true, beq_self_eq_true, Nat.reduceBEq, Int.ofNat_le, Int.reduceToNat, Int.reduceLT, Int.reduceLE, Int.reduceEq, Nat.reduceLeDiff, Nat.reduceLT, Nat.reduceEqDiff, Nat.reduceMul, Nat.reduceAdd, Nat.reduceBEq, List.length_cons, List.length_nil, String.reduceEq]
  have ho0 : okA l 0 := ⟨by omega, by omega⟩
  have ha1 := eatP_adv T (t := qOp) ho0
  have ha2 := wordP_adv T ha1.1
  have ha3 := eatP_adv T (t := qLP) ha2.1
  generalize hname : wordP l (eatP l 0 qOp) = name at ha2 ha3
  refine TS.seq (TS.of [] fun Q hQ => ?_)
  simp only [go_sem, true_or, or_true, Int.cast_ofNat_Int, not_true_eq_false, true_implies, forall_const, not_false_eq_true, List.size_toArray, Array.size_empty, and_self, ne_eq, not_false_eq_true, Nat.reduceEqDiff, Nat.mul_one, List.contains_nil, List.contains_cons, Bool.false_or, Bool.or_false, false_implies, implies_true, beq_self_eq_true, Nat.reduceBEq, Int.ofNat_le, Int.reduceToNat, Int.reduceLT, Int.reduceLE, Int.reduceEq, Nat.reduceLeDiff, Nat.reduceLT, Nat.reduceEqDiff, Nat.reduceMul, Nat.reduceAdd, Nat.reduceBEq, List.length_cons, List.length_nil, String.reduceEq]
  refine hQ .normal _ ?_; clear hQ Q
  refine TS.seq (TS.of [] fun Q hQ => ?_)
  simp only [go_sem, true_or, or_true, Int.cast_ofNat_Int, not_true_eq_false, true_implies, forall_const, not_false_eq_true, List.size_toArray, Array.size_empty, and_self, ne_eq, not_false_eq_true, Nat.reduceEqDiff, Nat.mul_one, List.contains_nil, List.contains_cons, Bool.false_or, Bool.or_false, false_implies, implies_true, beq_self_eq_true, Nat.reduceBEq, Int.ofNat_le, Int.reduceToNat, Int.reduceLT, Int.reduceLE, Int.reduceEq, Nat.reduceLeDiff, Nat.reduceLT, Nat.reduceEqDiff, Nat.reduceMul, Nat.reduceAdd, Nat.reduceBEq, List.length_cons, List.length_nil, String.reduceEq]
  refine hQ .normal _ ?_; clear hQ Q
  refine TS.seq (TS.of [] fun Q hQ => ?_)
  simp only [go_sem, true_or, or_true, Int.cast_ofNat_Int, not_true_eq_false, true_implies, forall_const, not_false_eq_true, List.size_toArray, Array.size_empty, and_self, ne_eq, not_false_eq_true, Nat.reduceEqDiff, Nat.mul_one, List.contains_nil, List.contains_cons, Bool.false_or, Bool.or_false, false_implies, implies_true, beq_self_eq_true, Nat.reduceBEq, Int.ofNat_le, Int.reduceToNat, Int.reduceLT, Int.reduceLE, Int.reduceEq, Nat.reduceLeDiff, Nat.reduceLT, Nat.reduceEqDiff, Nat.reduceMul, Nat.reduceAdd, Nat.reduceBEq, List.length_cons, List.length_nil, String.reduceEq]
  refine cal_eq (eat_sim _ l 0 qOp ho0 hl) ?_
  simp only [go_sem, true_or, or_true, Int.cast_ofNat_Int, not_true_eq_false, true_implies, forall_const, not_false_eq_true, List.size_toArray, Array.size_empty, and_self, ne_eq, not_false_eq_true, Nat.reduceEqDiff, Nat.mul_one, List.contains_nil, List.contains_cons, Bool.false_or, Bool.or_false, false_implies, implies_true, beq_self_eq_true, Nat.reduceBEq, Int.ofNat_le, Int.reduceToNat, Int.reduceLT, Int.reduceLE, Int.reduceEq, Nat.reduceLeDiff, Nat.reduceLT, Nat.reduceEqDiff, Nat.reduceMul, Nat.reduceAdd, Nat.reduceBEq, List.length_cons, List.length_nil, String.reduceEq]
  refine cal_eq (wordP_sim _ l _ ha1.1 hl) ?_
  simp only [go_sem, true_or, or_true, Int.cast_ofNat_Int, not_true_eq_false, true_implies, forall_const, not_false_eq_true, List.size_toArray, Array.size_empty, and_self, ne_eq, not_false_eq_true, Nat.reduceEqDiff, Nat.mul_one, List.contains_nil, List.contains_cons, Bool.false_or, Bool.or_false, false_implies, implies_true, beq_self_eq_true, Nat.reduceBEq, Int.ofNat_le, Int.reduceToNat, Int.reduceLT, Int.reduceLE, Int.reduceEq, Nat.reduceLeDiff, Nat.reduceLT, Nat.reduceEqDiff, Nat.reduceMul, Nat.reduceAdd, Nat.reduceBEq, List.length_cons, List.length_nil, String.reduceEq, hname]
  refine hQ .normal _ ?_; clear hQ Q
  refine TS.seq (TS.of [] fun Q hQ => ?_)
  simp only [go_sem, true_or, or_true, Int.cast_ofNat_Int, not_true_eq_false, true_implies, forall_const, not_false_eq_true, List.size_toArray, Array.size_empty, and_self, ne_eq, not_false_eq_true, Nat.reduceEqDiff, Nat.mul_one, List.contains_nil, List.contains_cons, Bool.false_or, Bool.or_false, false_implies, implies_true, beq_self_eq_true, Nat.reduceBEq, Int.ofNat_le, Int.reduceToNat, Int.reduceLT, Int.reduceLE, Int.reduceEq, Nat.reduceLeDiff, Nat.reduceLT, Nat.reduceEqDiff, Nat.reduceMul, Nat.reduceAdd, Nat.reduceBEq, List.length_cons, List.length_nil, String.reduceEq]
  refine hQ .normal _ ?_; clear hQ Q
  refine TS.seq (TS.of [] fun Q hQ => ?_)
  simp only [go_sem, true_or, or_true, Int.cast_ofNat_Int, not_true_eq_false, true_implies, forall_const, not_false_eq_true, List.size_toArray, Array.size_empty, and_self, ne_eq, not_false_eq_true, Nat.reduceEqDiff, Nat.mul_one, List.contains_nil, List.contains_cons, Bool.false_or, Bool.or_false, false_implies, implies_true, beq_self_eq_true, Nat.reduceBEq, Int.ofNat_le, Int.reduceToNat, Int.reduceLT, Int.reduceLE, Int.reduceEq, Nat.reduceLeDiff, Nat.reduceLT, Nat.reduceEqDiff, Nat.reduceMul, Nat.reduceAdd, Nat.reduceBEq, List.length_cons, List.length_nil, String.reduceEq]
  refine cal_eq (eat_sim _ l name.2 qLP ha2.1 hl) ?_
  simp only [go_sem, true_or, or_true, Int.cast_ofNat_Int, not_true_eq_false, true_implies, forall_const, not_false_eq_true, List.size_toArray, Array.size_empty, and_self, ne_eq, not_false_eq_true, Nat.reduceEqDiff, Nat.mul_one, List.contains_nil, List.contains_cons, Bool.false_or, Bool.or_false, false_implies, implies_true, beq_self_eq_true, Nat.reduceBEq, Int.ofNat_le, Int.reduceToNat, Int.reduceLT, Int.reduceLE, Int.reduceEq, Nat.reduceLeDiff, Nat.reduceLT, Nat.reduceEqDiff, Nat.reduceMul, Nat.reduceAdd, Nat.reduceBEq, List.length_cons, List.length_nil, String.reduceEq]
  refine hQ .normal _ ?_; clear hQ Q
  -- the parameters
  generalize hpar : loopP l (l.length + 2) [] (eatP l name.2 qLP) true = par
  have hpo : okA l par.2 := by rw [← hpar]; exact loopP_adv T _ _ _ _ ha3.1
  refine TS.seq (TS.mono (Q := fun e s => e = .normal ∧ (s.t 0 = slK l ∧ s.t 2 = .ptr m.objs.length 0 ∧ s.t 4 = .ptr (m.objs.length + 1) 0 ∧ s.t 6 = ii par.2) ∧ s.m = ⟨m.objs ++ [.cells zD, .cells [ss name.1, slP m.rows.length par.1, F0, F0, F0]], (accM m par.1.length).rows⟩ ∧ par.1.length ≤ 3000000) ?_ ?_)
  · refine TS.seq (TS.of [] fun Q hQ => ?_)
    simp only [go_sem, true_or, or_true, Int.cast_ofNat_Int, not_true_eq_false, true_implies, forall_const, not_false_eq_true, List.size_toArray, Array.size_empty, and_self, ne_eq, not_false_eq_true, Nat.reduceEqDiff, Nat.mul_one, List.contains_nil, List.contains_cons, Bool.false_or, Bool.or_false, false_implies, implies_true, beq_self_eq_true, Nat.reduceBEq, Int.ofNat_le, Int.reduceToNat, Int.reduceLT, Int.reduceLE, Int.reduceEq, Nat.reduceLeDiff, Nat.reduceLT, Nat.reduceEqDiff, Nat.reduceMul, Nat.reduceAdd, Nat.reduceBEq, List.length_cons, List.length_nil, String.reduceEq]
    refine hQ .normal _ ?_; clear hQ Q
    refine TS.block (TS.loop (α := Nat × List Bytes × Int × Bool) (fun x => [(0, slK l), (2, .ptr m.objs.length 0), (4, .ptr (m.objs.length + 1) 0), (6, ii x.2.2.1), (7, bb x.2.2.2)]) (fun x => ⟨m.objs ++ [.cells zD, .cells [ss name.1, slP m.rows.length x.2.1, F0, F0, F0]], (accM m x.2.1.length).rows⟩) (fun x => x.1 ≤ l.length + 2 ∧ okA l x.2.2.1 ∧ 1 ≤ x.1 ∧ (0 ≤ x.2.2.1 → (l.length : Int) - x.2.2.1 + 1 ≤ x.1) ∧ x.2.1.length + x.1 ≤ l.length + 2 ∧ loopP l x.1 x.2.1 x.2.2.1 x.2.2.2 = par) (fun x => x.1) (l.length + 2, [], eatP l name.2 qLP, true) (by simp) ⟨by simp [Has, upd_apply, argsT], rfl, ⟨Nat.le_refl _, ha3.1, by dsimp only; omega, by dsimp only; intro _; omega, by simp, hpar⟩⟩ ?_)
    rintro ⟨g, acc, q, b⟩ st hH hm ⟨hgf, hq, hg1, hge, hal, hcc⟩
    dsimp only at hH hm hgf hq hg1 hge hal hcc
    simp only [Has, List.mem_cons, List.not_mem_nil, or_false, forall_eq_or_imp, forall_eq] at hH; obtain ⟨i0, i2, i4, i6, i7⟩ := hH
    obtain ⟨g, rfl⟩ : ∃ j, g = j + 1 := ⟨g - 1, by omega⟩
    obtain ⟨hq1, hq2⟩ := id hq
    rw [loopP] at hcc
    have hlen : (acc.map (fun s => (IV.v (.string s)))).length = acc.length := by simp
    have happ := acc_app m 9 acc.length 1 (by decide)
    have hbound : (acc.length + 1) * 16 ≤ 140737488355328 := by omega
    have hw := wordP_adv T hq
    by_cases hrun : (decide (0 ≤ q) && !(b && isP l q qRP)) = true
    · rw [if_pos hrun] at hcc
      simp only [Bool.and_eq_true, decide_eq_true_eq] at hrun
      obtain ⟨hq0, hbi⟩ := hrun
      have hl1 : (acc ++ [(wordP l q).1] : List Bytes).length = acc.length + 1 := by simp
      -- the test
      refine TS.seq (TS.mono (Q := fun e s => e = .normal ∧ (s.t 0 = slK l ∧ s.t 2 = .ptr m.objs.length 0 ∧ s.t 4 = .ptr (m.objs.length + 1) 0 ∧ s.t 6 = ii q ∧ s.t 7 = bb b) ∧ s.m = st.m) ?_ ?_)
      · cases b with
        | false =>
          refine TS.of [] fun Q hQ => ?_
          simp only [go_sem, true_or, or_true, Int.cast_ofNat_Int, not_true_eq_false, true_implies, forall_const, not_false_eq_true, List.size_toArray, Array.size_empty, and_self, ne_eq, not_false_eq_true, Nat.reduceEqDiff, Nat.mul_one, List.contains_nil, List.contains_cons, Bool.false_or, Bool.or_false, false_implies, implies_true, beq_self_eq_true, Nat.reduceBEq, Int.ofNat_le, Int.reduceToNat, Int.reduceLT, Int.reduceLE, Int.reduceEq, Nat.reduceLeDiff, Nat.reduceLT, Nat.reduceEqDiff, Nat.reduceMul, Nat.reduceAdd, Nat.reduceBEq, List.length_cons, List.length_nil, String.reduceEq, i0, i2, i4, i6, i7, hm, hq0]
          refine hQ .normal _ ?_; clear hQ Q
          exact ⟨rfl, by simp [upd_apply, i0, i2, i4, i6, i7], hm.symm⟩
        | true =>
          have hi : isP l q qRP = false := by simpa using hbi
          refine TS.of [] fun Q hQ => ?_
          simp only [go_sem, true_or, or_true, Int.cast_ofNat_Int, not_true_eq_false, true_implies, forall_const, not_false_eq_true, List.size_toArray, Array.size_empty, and_self, ne_eq, not_false_eq_true, Nat.reduceEqDiff, Nat.mul_one, List.contains_nil, List.contains_cons, Bool.false_or, Bool.or_false, false_implies, implies_true, beq_self_eq_true, Nat.reduceBEq, Int.ofNat_le, Int.reduceToNat, Int.reduceLT, Int.reduceLE, Int.reduceEq, Nat.reduceLeDiff, Nat.reduceLT, Nat.reduceEqDiff, Nat.reduceMul, Nat.reduceAdd, Nat.reduceBEq, List.length_cons, List.length_nil, String.reduceEq, i0, i2, i4, i6, i7, hm, hq0]
          refine cal_eq (is_sim _ l q qRP hq2) ?_
          simp only [go_sem, true_or, or_true, Int.cast_ofNat_Int, not_true_eq_false, true_implies, forall_const, not_false_eq_true, List.size_toArray, Array.size_empty, and_self, ne_eq, not_false_eq_true, Nat.reduceEqDiff, Nat.mul_one, List.contains_nil, List.contains_cons, Bool.false_or, Bool.or_false, false_implies, implies_true, beq_self_eq_true, Nat.reduceBEq, Int.ofNat_le, Int.reduceToNat, Int.reduceLT, Int.reduceLE, Int.reduceEq, Nat.reduceLeDiff, Nat.reduceLT, Nat.reduceEqDiff, Nat.reduceMul, Nat.reduceAdd, Nat.reduceBEq, List.length_cons, List.length_nil, String.reduceEq, hi]
          refine hQ .normal _ ?_; clear hQ Q
          exact ⟨rfl, by simp [upd_apply, i0, i2, i4, i6, i7], hm.symm⟩
      rintro e s1 ⟨rfl, ⟨j0, j2, j4, j6, j7⟩, hm1⟩
      rw [hm] at hm1
      refine TS.of [] fun Q hQ => ?_
      simp only [go_sem, true_or, or_true, Int.cast_ofNat_Int, not_true_eq_false, true_implies, forall_const, not_false_eq_true, List.size_toArray, Array.size_empty, and_self, ne_eq, not_false_eq_true, Nat.reduceEqDiff, Nat.mul_one, List.contains_nil, List.contains_cons, Bool.false_or, Bool.or_false, false_implies, implies_true, beq_self_eq_true, Nat.reduceBEq, Int.ofNat_le, Int.reduceToNat, Int.reduceLT, Int.reduceLE, Int.reduceEq, Nat.reduceLeDiff, Nat.reduceLT, Nat.reduceEqDiff, Nat.reduceMul, Nat.reduceAdd, Nat.reduceBEq, List.length_cons, List.length_nil, String.reduceEq, j0, j2, j4, j6, j7, hm1]
      refine cal_eq (wordP_sim _ l q hq hl) ?_
      simp only [go_sem, true_or, or_true, Int.cast_ofNat_Int, not_true_eq_false, true_implies, forall_const, not_false_eq_true, List.size_toArray, Array.size_empty, and_self, ne_eq, not_false_eq_true, Nat.reduceEqDiff, Nat.mul_one, List.contains_nil, List.contains_cons, Bool.false_or, Bool.or_false, false_implies, implies_true, beq_self_eq_true, Nat.reduceBEq, Int.ofNat_le, Int.reduceToNat, Int.reduceLT, Int.reduceLE, Int.reduceEq, Nat.reduceLeDiff, Nat.reduceLT, Nat.reduceEqDiff, Nat.reduceMul, Nat.reduceAdd, Nat.reduceBEq, List.length_cons, List.length_nil, String.reduceEq, j0, j2, j4, j6, j7, hlen, happ, hbound]
      refine cal_eq (is_sim _ l (wordP l q).2 qComma hw.1.2) ?_
      cases hcm : isP l (wordP l q).2 qComma with
      | true =>
        rw [if_pos hcm] at hcc
        have hnx := isP_lt T hw.1 hcm
        have hw1 : IntKind.i64.wrap ((wordP l q).2 + 1) = (wordP l q).2 + 1 := wrap_small (by omega) (by have := hw.1.2; omega)
        simp only [go_sem, true_or, or_true, Int.cast_ofNat_Int, not_true_eq_false, true_implies, forall_const, not_false_eq_true, List.size_toArray, Array.size_empty, and_self, ne_eq, not_false_eq_true, Nat.reduceEqDiff, Nat.mul_one, List.contains_nil, List.contains_cons, Bool.false_or, Bool.or_false, false_implies, implies_true, beq_self_eq_true, Nat.reduceBEq, Int.ofNat_le, Int.reduceToNat, Int.reduceLT, Int.reduceLE, Int.reduceEq, Nat.reduceLeDiff, Nat.reduceLT, Nat.reduceEqDiff, Nat.reduceMul, Nat.reduceAdd, Nat.reduceBEq, List.length_cons, List.length_nil, String.reduceEq, hw1]
        refine hQ .normal _ ?_; clear hQ Q
        refine ⟨m.objs.length + 2, (accM m (acc.length + 1)).rows.length, (g, acc ++ [(wordP l q).1], (wordP l q).2 + 1, false), ?_, ?_, ⟨by dsimp only; omega, by dsimp only; exact hnx.2, ?_, ?_, by dsimp only; rw [hl1]; omega, hcc⟩, by dsimp only; omega⟩
        · dsimp only; rw [hl1]
          rw [slP_app]
          exact DropW.loc m.objs [.cells zD, .cells [_, _, _, _, _]] [.cells zD, .cells [_, _, _, _, _]] [] _ _ _ (Nat.le_refl _) (by simp [IObj.np, npL, IV.np, np_full, npS, npL_app, accK_np2, accM_lt]) (accM_len m _ _) (by simp)
        · dsimp only; simp [upd_apply, j0, j2, j4, IV.np, npK, np_sh]
        · dsimp only; unfold adv at hw; omega
        · dsimp only; unfold adv at hw; omega
      | false =>
        rw [if_neg (by simp [hcm])] at hcc
        simp only [go_sem, true_or, or_true, Int.cast_ofNat_Int, not_true_eq_false, true_implies, forall_const, not_false_eq_true, List.size_toArray, Array.size_empty, and_self, ne_eq, not_false_eq_true, Nat.reduceEqDiff, Nat.mul_one, List.contains_nil, List.contains_cons, Bool.false_or, Bool.or_false, false_implies, implies_true, beq_self_eq_true, Nat.reduceBEq, Int.ofNat_le, Int.reduceToNat, Int.reduceLT, Int.reduceLE, Int.reduceEq, Nat.reduceLeDiff, Nat.reduceLT, Nat.reduceEqDiff, Nat.reduceMul, Nat.reduceAdd, Nat.reduceBEq, List.length_cons, List.length_nil, String.reduceEq]
        refine hQ (.exit 0) _ ?_; clear hQ Q
        refine ⟨rfl, ?_, ?_, ?_⟩
        · rw [← hcc]; simp [upd_apply, j0, j2, j4]
        · rw [← hcc]; simp
        · rw [← hcc]; dsimp only; rw [hl1]; omega
    · rw [if_neg hrun] at hcc
      have hle : acc.length ≤ 3000000 := by omega
      by_cases hq0 : 0 ≤ q
      · have hbi : b = true ∧ isP l q qRP = true := by simpa [hq0] using hrun
        obtain ⟨rfl, hi⟩ := hbi
        refine TS.of [] fun Q hQ => ?_
        simp only [go_sem, true_or, or_true, Int.cast_ofNat_Int, not_true_eq_false, true_implies, forall_const, not_false_eq_true, List.size_toArray, Array.size_empty, and_self, ne_eq, not_false_eq_true, Nat.reduceEqDiff, Nat.mul_one, List.contains_nil, List.contains_cons, Bool.false_or, Bool.or_false, false_implies, implies_true, beq_self_eq_true, Nat.reduceBEq, Int.ofNat_le, Int.reduceToNat, Int.reduceLT, Int.reduceLE, Int.reduceEq, Nat.reduceLeDiff, Nat.reduceLT, Nat.reduceEqDiff, Nat.reduceMul, Nat.reduceAdd, Nat.reduceBEq, List.length_cons, List.length_nil, String.reduceEq, i0, i2, i4, i6, i7, hm, hq0]
        refine cal_eq (is_sim _ l q qRP hq2) ?_
        simp only [go_sem, true_or, or_true, Int.cast_ofNat_Int, not_true_eq_false, true_implies, forall_const, not_false_eq_true, List.size_toArray, Array.size_empty, and_self, ne_eq, not_false_eq_true, Nat.reduceEqDiff, Nat.mul_one, List.contains_nil, List.contains_cons, Bool.false_or, Bool.or_false, false_implies, implies_true, beq_self_eq_true, Nat.reduceBEq, Int.ofNat_le, Int.reduceToNat, Int.reduceLT, Int.reduceLE, Int.reduceEq, Nat.reduceLeDiff, Nat.reduceLT, Nat.reduceEqDiff, Nat.reduceMul, Nat.reduceAdd, Nat.reduceBEq, List.length_cons, List.length_nil, String.reduceEq, hi]
        refine hQ (.exit 0) _ ?_; clear hQ Q
        refine ⟨rfl, ?_, ?_, ?_⟩
        · rw [← hcc]; simp [upd_apply, i0, i2, i4, i6]
        · rw [← hcc]
        · rw [← hcc]; exact hle
      · refine TS.of [] fun Q hQ => ?_
        simp only [go_sem, true_or, or_true, Int.cast_ofNat_Int, not_true_eq_false, true_implies, forall_const, not_false_eq_true, List.size_toArray, Array.size_empty, and_self, ne_eq, not_false_eq_true, Nat.reduceEqDiff, Nat.mul_one, List.contains_nil, List.contains_cons, Bool.false_or, Bool.or_false, false_implies, implies_true, beq_self_eq_true, Nat.reduceBEq, Int.ofNat_le, Int.reduceToNat, Int.reduceLT, Int.reduceLE, Int.reduceEq, Nat.reduceLeDiff, Nat.reduceLT, Nat.reduceEqDiff, Nat.reduceMul, Nat.reduceAdd, Nat.reduceBEq, List.length_cons, List.length_nil, String.reduceEq, i0, i2, i4, i6, i7, hm, hq0]
        refine hQ (.exit 0) _ ?_; clear hQ Q
        refine ⟨rfl, ?_, ?_, ?_⟩
        · rw [← hcc]; simp [upd_apply, i0, i2, i4, i6]
        · rw [← hcc]
        · rw [← hcc]; exact hle
  rintro e s2 ⟨rfl, ⟨i0, i2, i4, i6⟩, hm2, hpl⟩
  have hd1 := eatP_adv T (t := qRP) hpo
  have hd2 := eatP_adv T (t := qLC) hd1.1
  refine TS.seq (TS.of [] fun Q hQ => ?_)
  simp only [go_sem, true_or, or_true, Int.cast_ofNat_Int, not_true_eq_false, true_implies, forall_const, not_false_eq_true, List.size_toArray, Array.size_empty, and_self, ne_eq, not_false_eq_true, Nat.reduceEqDiff, Nat.mul_one, List.contains_nil, List.contains_cons, Bool.false_or, Bool.or_false, false_implies, implies_true, beq_self_eq_true, Nat.reduceBEq, Int.ofNat_le, Int.reduceToNat, Int.reduceLT, Int.reduceLE, Int.reduceEq, Nat.reduceLeDiff, Nat.reduceLT, Nat.reduceEqDiff, Nat.reduceMul, Nat.reduceAdd, Nat.reduceBEq, List.length_cons, List.length_nil, String.reduceEq, i0, i2, i4, i6, hm2]
  refine cal_eq (eat_sim _ l par.2 qRP hpo hl) ?_
  simp only [go_sem, true_or, or_true, Int.cast_ofNat_Int, not_true_eq_false, true_implies, forall_const, not_false_eq_true, List.size_toArray, Array.size_empty, and_self, ne_eq, not_false_eq_true, Nat.reduceEqDiff, Nat.mul_one, List.contains_nil, List.contains_cons, Bool.false_or, Bool.or_false, false_implies, implies_true, beq_self_eq_true, Nat.reduceBEq, Int.ofNat_le, Int.reduceToNat, Int.reduceLT, Int.reduceLE, Int.reduceEq, Nat.reduceLeDiff, Nat.reduceLT, Nat.reduceEqDiff, Nat.reduceMul, Nat.reduceAdd, Nat.reduceBEq, List.length_cons, List.length_nil, String.reduceEq]
  refine cal_eq (eat_sim _ l _ qLC hd1.1 hl) ?_
  simp only [go_sem, true_or, or_true, Int.cast_ofNat_Int, not_true_eq_false, true_implies, forall_const, not_false_eq_true, List.size_toArray, Array.size_empty, and_self, ne_eq, not_false_eq_true, Nat.reduceEqDiff, Nat.mul_one, List.contains_nil, List.contains_cons, Bool.false_or, Bool.or_false, false_implies, implies_true, beq_self_eq_true, Nat.reduceBEq, Int.ofNat_le, Int.reduceToNat, Int.reduceLT, Int.reduceLE, Int.reduceEq, Nat.reduceLeDiff, Nat.reduceLT, Nat.reduceEqDiff, Nat.reduceMul, Nat.reduceAdd, Nat.reduceBEq, List.length_cons, List.length_nil, String.reduceEq]
  refine hQ .normal _ ?_; clear hQ Q
  -- the needs
  generalize hnee : loopN l (l.length + 2) [] (eatP l (eatP l par.2 qRP) qLC) = nee
  have hno : okA l nee.2 := by rw [← hnee]; exact loopN_adv T _ _ _ hd2.1
  generalize hm1 : accM m par.1.length = m1
  have hpn : par.1.length ≠ 0 → m.rows.length < m1.rows.length := by rw [← hm1]; exact accM_lt
  have hpn0 : m.rows.length ≤ m1.rows.length := by rw [← hm1]; exact accM_ge
  have hm1o : m1.objs = m.objs := by rw [← hm1]; rfl
  have hm1t : m1.rows.take m.rows.length = m.rows := by rw [← hm1]; exact accM_take _ _
  refine TS.seq (TS.mono (Q := fun e s => e = .normal ∧ (s.t 0 = slK l ∧ s.t 2 = .ptr m.objs.length 0 ∧ s.t 4 = .ptr (m.objs.length + 1) 0 ∧ s.t 6 = ii nee.2) ∧ s.m = ⟨m.objs ++ [.cells zD, .cells [ss name.1, slP m.rows.length par.1, slN m1.rows.length nee.1, F0, F0]], (accM m1 nee.1.length).rows⟩ ∧ nee.1.length ≤ 3000000) ?_ ?_)
  · refine TS.block (TS.loop (α := Nat × List Expr × Int) (fun x => [(0, slK l), (2, .ptr m.objs.length 0), (4, .ptr (m.objs.length + 1) 0), (6, ii x.2.2)]) (fun x => ⟨m.objs ++ [.cells zD, .cells [ss name.1, slP m.rows.length par.1, slN m1.rows.length x.2.1, F0, F0]], (accM m1 x.2.1.length).rows⟩) (fun x => x.1 ≤ l.length + 2 ∧ okA l x.2.2 ∧ 1 ≤ x.1 ∧ (0 ≤ x.2.2 → (l.length : Int) - x.2.2 + 1 ≤ x.1) ∧ x.2.1.length + x.1 ≤ l.length + 2 ∧ loopN l x.1 x.2.1 x.2.2 = nee) (fun x => x.1) (l.length + 2, [], eatP l (eatP l par.2 qRP) qLC) (by simp) ⟨by simp [Has, upd_apply, i0, i2, i4], by rw [← hm1]; rfl, ⟨Nat.le_refl _, hd2.1, by dsimp only; omega, by dsimp only; intro _; omega, by simp, hnee⟩⟩ ?_)
    rintro ⟨g, acc, q⟩ st hH hm ⟨hgf, hq, hg1, hge, hal, hcc⟩
    dsimp only at hH hm hgf hq hg1 hge hal hcc
    simp only [Has, List.mem_cons, List.not_mem_nil, or_false, forall_eq_or_imp, forall_eq] at hH; obtain ⟨j0, j2, j4, j6⟩ := hH
    obtain ⟨g, rfl⟩ : ∃ j, g = j + 1 := ⟨g - 1, by omega⟩
    obtain ⟨hq1, hq2⟩ := id hq
    rw [loopN] at hcc
    have hlen : (encEs acc).length = acc.length * 5 := encEs_length acc
    have happ := acc_app m1 99 acc.length 1 (by decide)
    have hbound : (acc.length + 1) * 64 ≤ 140737488355328 := by omega
    cases hi : isP l q qNeed with
    | true =>
      rw [if_pos hi] at hcc
      have hnx := isP_lt T hq hi
      have hw1 : IntKind.i64.wrap (q + 1) = q + 1 := wrap_small (by omega) (by omega)
      have hsub := fun m => expr_sim T hsz m (q + 1) 1 1 hnx.2 (by omega) (by omega) (by omega) (by omega)
      have ha := expr_adv1 T (least := 1) (depth := 1) hnx.2
      generalize expr l (q + 1) 1 1 = X at hcc hsub ha
      have hb := eatP_adv T (t := qSemi) ha.1
      refine TS.of [] fun Q hQ => ?_
      simp only [go_sem, true_or, or_true, Int.cast_ofNat_Int, not_true_eq_false, true_implies, forall_const, not_false_eq_true, List.size_toArray, Array.size_empty, and_self, ne_eq, not_false_eq_true, Nat.reduceEqDiff, Nat.mul_one, List.contains_nil, List.contains_cons, Bool.false_or, Bool.or_false, false_implies, implies_true, beq_self_eq_true, Nat.reduceBEq, Int.ofNat_le, Int.reduceToNat, Int.reduceLT, Int.reduceLE, Int.reduceEq, Nat.reduceLeDiff, Nat.reduceLT, Nat.reduceEqDiff, Nat.reduceMul, Nat.reduceAdd, Nat.reduceBEq, List.length_cons, List.length_nil, String.reduceEq, j0, j2, j4, j6, hm]
      refine cal_eq (is_sim _ l q qNeed hq2) ?_
      simp only [go_sem, true_or, or_true, Int.cast_ofNat_Int, not_true_eq_false, true_implies, forall_const, not_false_eq_true, List.size_toArray, Array.size_empty, and_self, ne_eq, not_false_eq_true, Nat.reduceEqDiff, Nat.mul_one, List.contains_nil, List.contains_cons, Bool.false_or, Bool.or_false, false_implies, implies_true, beq_self_eq_true, Nat.reduceBEq, Int.ofNat_le, Int.reduceToNat, Int.reduceLT, Int.reduceLE, Int.reduceEq, Nat.reduceLeDiff, Nat.reduceLT, Nat.reduceEqDiff, Nat.reduceMul, Nat.reduceAdd, Nat.reduceBEq, List.length_cons, List.length_nil, String.reduceEq, hi, j0, j2, j4, j6, hw1]
      refine cal_eq (hsub _) ?_
      simp only [go_sem, true_or, or_true, Int.cast_ofNat_Int, not_true_eq_false, true_implies, forall_const, not_false_eq_true, List.size_toArray, Array.size_empty, and_self, ne_eq, not_false_eq_true, Nat.reduceEqDiff, Nat.mul_one, List.contains_nil, List.contains_cons, Bool.false_or, Bool.or_false, false_implies, implies_true, beq_self_eq_true, Nat.reduceBEq, Int.ofNat_le, Int.reduceToNat, Int.reduceLT, Int.reduceLE, Int.reduceEq, Nat.reduceLeDiff, Nat.reduceLT, Nat.reduceEqDiff, Nat.reduceMul, Nat.reduceAdd, Nat.reduceBEq, List.length_cons, List.length_nil, String.reduceEq, encE_eq, j0, j2, j4, j6, hlen, happ, hbound]
      refine cal_eq (eat_sim _ l X.2 qSemi ha.1 hl) ?_
      simp only [go_sem, true_or, or_true, Int.cast_ofNat_Int, not_true_eq_false, true_implies, forall_const, not_false_eq_true, List.size_toArray, Array.size_empty, and_self, ne_eq, not_false_eq_true, Nat.reduceEqDiff, Nat.mul_one, List.contains_nil, List.contains_cons, Bool.false_or, Bool.or_false, false_implies, implies_true, beq_self_eq_true, Nat.reduceBEq, Int.ofNat_le, Int.reduceToNat, Int.reduceLT, Int.reduceLE, Int.reduceEq, Nat.reduceLeDiff, Nat.reduceLT, Nat.reduceEqDiff, Nat.reduceMul, Nat.reduceAdd, Nat.reduceBEq, List.length_cons, List.length_nil, String.reduceEq]
      refine hQ .normal _ ?_; clear hQ Q
      have hl1 : (acc ++ [X.1] : List Expr).length = acc.length + 1 := by simp
      refine ⟨m.objs.length + 2, (accM m1 (acc.length + 1)).rows.length, (g, acc ++ [X.1], eatP l X.2 qSemi), ?_, ?_, ⟨by dsimp only; omega, by dsimp only; exact hb.1, ?_, ?_, by dsimp only; rw [hl1]; omega, hcc⟩, by dsimp only; omega⟩
      · dsimp only; rw [hl1]
        rw [slN_app]
        have hg1 := accM_ge (m := m1) (n := acc.length + 1)
        have hP : (accK m.rows.length 9 par.1.length).np (accM m1 (acc.length + 1)).rows.length = true := accK_np2 (fun h => Nat.lt_of_lt_of_le (hpn h) hg1)
        exact DropW.loc m.objs [.cells zD, .cells [_, _, _, _, _]] [.cells zD, .cells [_, _, _, _, _]] [_] _ _ _ (Nat.le_refl _) (by simp [IObj.np, npL, IV.np, np_full, np_sh, npS, npEs, npL_app, accK_np2, accM_lt, hP]) (accM_len m1 _ _) (by simp)
      · dsimp only; simp [upd_apply, j0, j2, j4, IV.np, npK, np_sh]
      · dsimp only; unfold adv at ha hb; omega
      · dsimp only; unfold adv at ha hb; omega
    | false =>
      rw [if_neg (by simp [hi])] at hcc
      refine TS.of [] fun Q hQ => ?_
      simp only [go_sem, true_or, or_true, Int.cast_ofNat_Int, not_true_eq_false, true_implies, forall_const, not_false_eq_true, List.size_toArray, Array.size_empty, and_self, ne_eq, not_false_eq_true, Nat.reduceEqDiff, Nat.mul_one, List.contains_nil, List.contains_cons, Bool.false_or, Bool.or_false, false_implies, implies_true, beq_self_eq_true, Nat.reduceBEq, Int.ofNat_le, Int.reduceToNat, Int.reduceLT, Int.reduceLE, Int.reduceEq, Nat.reduceLeDiff, Nat.reduceLT, Nat.reduceEqDiff, Nat.reduceMul, Nat.reduceAdd, Nat.reduceBEq, List.length_cons, List.length_nil, String.reduceEq, j0, j2, j4, j6, hm]
      refine cal_eq (is_sim _ l q qNeed hq2) ?_
      simp only [go_sem, true_or, or_true, Int.cast_ofNat_Int, not_true_eq_false, true_implies, forall_const, not_false_eq_true, List.size_toArray, Array.size_empty, and_self, ne_eq, not_false_eq_true, Nat.reduceEqDiff, Nat.mul_one, List.contains_nil, List.contains_cons, Bool.false_or, Bool.or_false, false_implies, implies_true, beq_self_eq_true, Nat.reduceBEq, Int.ofNat_le, Int.reduceToNat, Int.reduceLT, Int.reduceLE, Int.reduceEq, Nat.reduceLeDiff, Nat.reduceLT, Nat.reduceEqDiff, Nat.reduceMul, Nat.reduceAdd, Nat.reduceBEq, List.length_cons, List.length_nil, String.reduceEq, hi]
      refine hQ (.exit 2) _ ?_; clear hQ Q
      refine ⟨rfl, ?_, ?_, ?_⟩
      · rw [← hcc]; simp [upd_apply, j0, j2, j4, j6]
      · rw [← hcc]
      · rw [← hcc]; dsimp only; omega
  rintro e s3 ⟨rfl, ⟨j0, j2, j4, j6⟩, hm3, hnl⟩
  clear i0 i2 i4 i6 hm2
  -- the body
  generalize hbod : loopD l (l.length + 2) [] nee.2 = bod
  have hbo : okA l bod.2 := by rw [← hbod]; exact loopD_adv T _ _ _ hno
  generalize hm2e : accM m1 nee.1.length = m2
  have hnn : nee.1.length ≠ 0 → m1.rows.length < m2.rows.length := by rw [← hm2e]; exact accM_lt
  have hnn0 : m1.rows.length ≤ m2.rows.length := by rw [← hm2e]; exact accM_ge
  have hm2t : m2.rows.take m1.rows.length = m1.rows := by rw [← hm2e]; exact accM_take _ _
  rw [hm2e] at hm3
  refine TS.seq (TS.mono (Q := fun e s => e = .normal ∧ (s.t 0 = slK l ∧ s.t 2 = .ptr m.objs.length 0 ∧ s.t 4 = .ptr (m.objs.length + 1) 0 ∧ s.t 6 = ii bod.2) ∧ s.m = ⟨m.objs ++ [.cells zD, .cells [ss name.1, slP m.rows.length par.1, slN m1.rows.length nee.1, slB m2.rows.length bod.1, F0]], (accM m2 bod.1.length).rows⟩ ∧ bod.1.length ≤ 3000000) ?_ ?_)
  · refine TS.block (TS.loop (α := Nat × List Stmt × Int) (fun x => [(0, slK l), (2, .ptr m.objs.length 0), (4, .ptr (m.objs.length + 1) 0), (6, ii x.2.2)]) (fun x => ⟨m.objs ++ [.cells zD, .cells [ss name.1, slP m.rows.length par.1, slN m1.rows.length nee.1, slB m2.rows.length x.2.1, F0]], (accM m2 x.2.1.length).rows⟩) (fun x => x.1 ≤ l.length + 2 ∧ okA l x.2.2 ∧ 1 ≤ x.1 ∧ (0 ≤ x.2.2 → (l.length : Int) - x.2.2 + 1 ≤ x.1) ∧ x.2.1.length + x.1 ≤ l.length + 2 ∧ loopD l x.1 x.2.1 x.2.2 = bod) (fun x => x.1) (l.length + 2, [], nee.2) (by simp) ⟨by simp [Has, j0, j2, j4, j6], by rw [hm3]; rfl, ⟨Nat.le_refl _, hno, by dsimp only; omega, by dsimp only; intro _; omega, by simp, hbod⟩⟩ ?_)
    rintro ⟨g, acc, q⟩ st hH hm ⟨hgf, hq, hg1, hge, hal, hcc⟩
    dsimp only at hH hm hgf hq hg1 hge hal hcc
    simp only [Has, List.mem_cons, List.not_mem_nil, or_false, forall_eq_or_imp, forall_eq] at hH; obtain ⟨k0, k2, k4, k6⟩ := hH
    obtain ⟨g, rfl⟩ : ∃ j, g = j + 1 := ⟨g - 1, by omega⟩
    obtain ⟨hq1, hq2⟩ := id hq
    rw [loopD] at hcc
    have hlen : (encTs acc).length = acc.length * 7 := encTs_length acc
    have happ := acc_app m2 104 acc.length 1 (by decide)
    have hbound : (acc.length + 1) * 112 ≤ 140737488355328 := by omega
    by_cases hrun : (decide (0 ≤ q) && (!isP l q qGive && !isP l q qRC)) = true
    · rw [if_pos hrun] at hcc
      simp only [Bool.and_eq_true, Bool.not_eq_true', decide_eq_true_eq] at hrun
      obtain ⟨hq0, hi, hi2⟩ := hrun
      have hsub := fun m => stmt_sim T hsz m q hq hq0
      have ha := stmt_adv1 T (depth := 1) hq hq0
      generalize stmt l q 1 = X at hcc hsub ha
      refine TS.of [] fun Q hQ => ?_
      simp only [go_sem, true_or, or_true, Int.cast_ofNat_Int, not_true_eq_false, true_implies, forall_const, not_false_eq_true, List.size_toArray, Array.size_empty, and_self, ne_eq, not_false_eq_true, Nat.reduceEqDiff, Nat.mul_one, List.contains_nil, List.contains_cons, Bool.false_or, Bool.or_false, false_implies, implies_true, beq_self_eq_true, Nat.reduceBEq, Int.ofNat_le, Int.reduceToNat, Int.reduceLT, Int.reduceLE, Int.reduceEq, Nat.reduceLeDiff, Nat.reduceLT, Nat.reduceEqDiff, Nat.reduceMul, Nat.reduceAdd, Nat.reduceBEq, List.length_cons, List.length_nil, String.reduceEq, k0, k2, k4, k6, hm, hq0]
      refine cal_eq (is_sim _ l q qGive hq2) ?_
      simp only [go_sem, true_or, or_true, Int.cast_ofNat_Int, not_true_eq_false, true_implies, forall_const, not_false_eq_true, List.size_toArray, Array.size_empty, and_self, ne_eq, not_false_eq_true, Nat.reduceEqDiff, Nat.mul_one, List.contains_nil, List.contains_cons, Bool.false_or, Bool.or_false, false_implies, implies_true, beq_self_eq_true, Nat.reduceBEq, Int.ofNat_le, Int.reduceToNat, Int.reduceLT, Int.reduceLE, Int.reduceEq, Nat.reduceLeDiff, Nat.reduceLT, Nat.reduceEqDiff, Nat.reduceMul, Nat.reduceAdd, Nat.reduceBEq, List.length_cons, List.length_nil, String.reduceEq, hi, k0, k2, k4, k6]
      refine cal_eq (is_sim _ l q qRC hq2) ?_
      simp only [go_sem, true_or, or_true, Int.cast_ofNat_Int, not_true_eq_false, true_implies, forall_const, not_false_eq_true, List.size_toArray, Array.size_empty, and_self, ne_eq, not_false_eq_true, Nat.reduceEqDiff, Nat.mul_one, List.contains_nil, List.contains_cons, Bool.false_or, Bool.or_false, false_implies, implies_true, beq_self_eq_true, Nat.reduceBEq, Int.ofNat_le, Int.reduceToNat, Int.reduceLT, Int.reduceLE, Int.reduceEq, Nat.reduceLeDiff, Nat.reduceLT, Nat.reduceEqDiff, Nat.reduceMul, Nat.reduceAdd, Nat.reduceBEq, List.length_cons, List.length_nil, String.reduceEq, hi2, k0, k2, k4, k6]
      refine cal_eq (hsub _) ?_
      simp only [go_sem, true_or, or_true, Int.cast_ofNat_Int, not_true_eq_false, true_implies, forall_const, not_false_eq_true, List.size_toArray, Array.size_empty, and_self, ne_eq, not_false_eq_true, Nat.reduceEqDiff, Nat.mul_one, List.contains_nil, List.contains_cons, Bool.false_or, Bool.or_false, false_implies, implies_true, beq_self_eq_true, Nat.reduceBEq, Int.ofNat_le, Int.reduceToNat, Int.reduceLT, Int.reduceLE, Int.reduceEq, Nat.reduceLeDiff, Nat.reduceLT, Nat.reduceEqDiff, Nat.reduceMul, Nat.reduceAdd, Nat.reduceBEq, List.length_cons, List.length_nil, String.reduceEq, encT_eq, k0, k2, k4, k6, hlen, happ, hbound]
      refine hQ .normal _ ?_; clear hQ Q
      have hl1 : (acc ++ [X.1] : List Stmt).length = acc.length + 1 := by simp
      refine ⟨m.objs.length + 2, (accM m2 (acc.length + 1)).rows.length, (g, acc ++ [X.1], X.2), ?_, ?_, ⟨by dsimp only; omega, by dsimp only; exact ha.1, ?_, ?_, by dsimp only; rw [hl1]; omega, hcc⟩, by dsimp only; omega⟩
      · dsimp only; rw [hl1, slB_app]
        have hg1 := accM_ge (m := m2) (n := acc.length + 1)
        have hP : (accK m.rows.length 9 par.1.length).np (accM m2 (acc.length + 1)).rows.length = true := accK_np2 (fun h => Nat.lt_of_lt_of_le (hpn h) (Nat.le_trans hnn0 hg1))
        have hN : (accK m1.rows.length 99 nee.1.length).np (accM m2 (acc.length + 1)).rows.length = true := accK_np2 (fun h => Nat.lt_of_lt_of_le (hnn h) hg1)
        exact DropW.loc m.objs [.cells zD, .cells [_, _, _, _, _]] [.cells zD, .cells [_, _, _, _, _]] [_] _ _ _ (Nat.le_refl _) (by simp [IObj.np, npL, IV.np, np_full, np_sh, npS, npEs, npTs, npL_app, accK_np2, accM_lt, hP, hN]) (accM_len m2 _ _) (by simp)
      · dsimp only; simp [upd_apply, k0, k2, k4, IV.np, npK, np_sh]
      · dsimp only; unfold adv at ha; omega
      · dsimp only; unfold adv at ha; omega
    · rw [if_neg hrun] at hcc
      by_cases hq0 : 0 ≤ q
      · refine TS.of [] fun Q hQ => ?_
        simp only [go_sem, true_or, or_true, Int.cast_ofNat_Int, not_true_eq_false, true_implies, forall_const, not_false_eq_true, List.size_toArray, Array.size_empty, and_self, ne_eq, not_false_eq_true, Nat.reduceEqDiff, Nat.mul_one, List.contains_nil, List.contains_cons, Bool.false_or, Bool.or_false, false_implies, implies_true, beq_self_eq_true, Nat.reduceBEq, Int.ofNat_le, Int.reduceToNat, Int.reduceLT, Int.reduceLE, Int.reduceEq, Nat.reduceLeDiff, Nat.reduceLT, Nat.reduceEqDiff, Nat.reduceMul, Nat.reduceAdd, Nat.reduceBEq, List.length_cons, List.length_nil, String.reduceEq, k0, k2, k4, k6, hm, hq0]
        refine cal_eq (is_sim _ l q qGive hq2) ?_
        cases hi : isP l q qGive with
        | true =>
          simp only [go_sem, true_or, or_true, Int.cast_ofNat_Int, not_true_eq_false, true_implies, forall_const, not_false_eq_true, List.size_toArray, Array.size_empty, and_self, ne_eq, not_false_eq_true, Nat.reduceEqDiff, Nat.mul_one, List.contains_nil, List.contains_cons, Bool.false_or, Bool.or_false, false_implies, implies_true, beq_self_eq_true, Nat.reduceBEq, Int.ofNat_le, Int.reduceToNat, Int.reduceLT, Int.reduceLE, Int.reduceEq, Nat.reduceLeDiff, Nat.reduceLT, Nat.reduceEqDiff, Nat.reduceMul, Nat.reduceAdd, Nat.reduceBEq, List.length_cons, List.length_nil, String.reduceEq]
          refine hQ (.exit 4) _ ?_; clear hQ Q
          refine ⟨rfl, ?_, ?_, ?_⟩
          · rw [← hcc]; simp [upd_apply, k0, k2, k4, k6]
          · rw [← hcc]
          · rw [← hcc]; dsimp only; omega
        | false =>
          have hi2 : isP l q qRC = true := by simpa [hq0, hi] using hrun
          simp only [go_sem, true_or, or_true, Int.cast_ofNat_Int, not_true_eq_false, true_implies, forall_const, not_false_eq_true, List.size_toArray, Array.size_empty, and_self, ne_eq, not_false_eq_true, Nat.reduceEqDiff, Nat.mul_one, List.contains_nil, List.contains_cons, Bool.false_or, Bool.or_false, false_implies, implies_true, beq_self_eq_true, Nat.reduceBEq, Int.ofNat_le, Int.reduceToNat, Int.reduceLT, Int.reduceLE, Int.reduceEq, Nat.reduceLeDiff, Nat.reduceLT, Nat.reduceEqDiff, Nat.reduceMul, Nat.reduceAdd, Nat.reduceBEq, List.length_cons, List.length_nil, String.reduceEq, k0, k2, k4, k6]
          refine cal_eq (is_sim _ l q qRC hq2) ?_
          simp only [go_sem, true_or, or_true, Int.cast_ofNat_Int, not_true_eq_false, true_implies, forall_const, not_false_eq_true, List.size_toArray, Array.size_empty, and_self, ne_eq, not_false_eq_true, Nat.reduceEqDiff, Nat.mul_one, List.contains_nil, List.contains_cons, Bool.false_or, Bool.or_false, false_implies, implies_true, beq_self_eq_true, Nat.reduceBEq, Int.ofNat_le, Int.reduceToNat, Int.reduceLT, Int.reduceLE, Int.reduceEq, Nat.reduceLeDiff, Nat.reduceLT, Nat.reduceEqDiff, Nat.reduceMul, Nat.reduceAdd, Nat.reduceBEq, List.length_cons, List.length_nil, String.reduceEq, hi2]
          refine hQ (.exit 4) _ ?_; clear hQ Q
          refine ⟨rfl, ?_, ?_, ?_⟩
          · rw [← hcc]; simp [upd_apply, k0, k2, k4, k6]
          · rw [← hcc]
          · rw [← hcc]; dsimp only; omega
      · refine TS.of [] fun Q hQ => ?_
        simp only [go_sem, true_or, or_true, Int.cast_ofNat_Int, not_true_eq_false, true_implies, forall_const, not_false_eq_true, List.size_toArray, Array.size_empty, and_self, ne_eq, not_false_eq_true, Nat.reduceEqDiff, Nat.mul_one, List.contains_nil, List.contains_cons, Bool.false_or, Bool.or_false, false_implies, implies_true, beq_self_eq_true, Nat.reduceBEq, Int.ofNat_le, Int.reduceToNat, Int.reduceLT, Int.reduceLE, Int.reduceEq, Nat.reduceLeDiff, Nat.reduceLT, Nat.reduceEqDiff, Nat.reduceMul, Nat.reduceAdd, Nat.reduceBEq, List.length_cons, List.length_nil, String.reduceEq, k0, k2, k4, k6, hm, hq0]
        refine hQ (.exit 4) _ ?_; clear hQ Q
        refine ⟨rfl, ?_, ?_, ?_⟩
        · rw [← hcc]; simp [upd_apply, k0, k2, k4, k6]
        · rw [← hcc]
        · rw [← hcc]; dsimp only; omega
  rintro e s4 ⟨rfl, ⟨k0, k2, k4, k6⟩, hm4, hbl⟩
  clear j0 j2 j4 j6 hm3
  generalize hm3e : accM m2 bod.1.length = m3 at hm4
  have hm3t : m3.rows.take m2.rows.length = m2.rows := by rw [← hm3e]; exact accM_take _ _
  have hge3 : m2.rows.length ≤ m3.rows.length := by rw [← hm3e]; exact accM_ge
  have htake : ∀ r, (m3.rows ++ r).take m.rows.length = m.rows := by
    intro r
    rw [List.take_append_of_le_length (by omega)]
    have e : m.rows = m3.rows.take m.rows.length := by
      conv => lhs; rw [← hm1t, ← hm2t, ← hm3t, List.take_take, List.take_take]
      congr 1; omega
    exact e.symm
  have hgo : defP l = defP l := rfl
  conv at hgo => rhs; unfold defP
  dsimp only at hgo
  rw [hname, hpar, hnee, hbod] at hgo
  refine TS.of [] fun Q hQ => ?_
  simp only [go_sem, true_or, or_true, Int.cast_ofNat_Int, not_true_eq_false, true_implies, forall_const, not_false_eq_true, List.size_toArray, Array.size_empty, and_self, ne_eq, not_false_eq_true, Nat.reduceEqDiff, Nat.mul_one, List.contains_nil, List.contains_cons, Bool.false_or, Bool.or_false, false_implies, implies_true, beq_self_eq_true, Nat.reduceBEq, Int.ofNat_le, Int.reduceToNat, Int.reduceLT, Int.reduceLE, Int.reduceEq, Nat.reduceLeDiff, Nat.reduceLT, Nat.reduceEqDiff, Nat.reduceMul, Nat.reduceAdd, Nat.reduceBEq, List.length_cons, List.length_nil, String.reduceEq, k0, k2, k4, k6, hm4]
  refine cal_eq (is_sim _ l bod.2 qGive hbo.2) ?_
  cases hi : isP l bod.2 qGive with
  | true =>
    rw [if_pos hi] at hgo
    have hnx := isP_lt T hbo hi
    have hw1 : IntKind.i64.wrap (bod.2 + 1) = bod.2 + 1 := wrap_small (by omega) (by have := hbo.2; omega)
    have hsub := fun m => expr_sim T hsz m (bod.2 + 1) 1 1 hnx.2 (by omega) (by omega) (by omega) (by omega)
    have ha := expr_adv1 T (least := 1) (depth := 1) hnx.2
    generalize expr l (bod.2 + 1) 1 1 = X at hgo hsub ha
    have hb := eatP_adv T (t := qSemi) ha.1
    simp only [go_sem, true_or, or_true, Int.cast_ofNat_Int, not_true_eq_false, true_implies, forall_const, not_false_eq_true, List.size_toArray, Array.size_empty, and_self, ne_eq, not_false_eq_true, Nat.reduceEqDiff, Nat.mul_one, List.contains_nil, List.contains_cons, Bool.false_or, Bool.or_false, false_implies, implies_true, beq_self_eq_true, Nat.reduceBEq, Int.ofNat_le, Int.reduceToNat, Int.reduceLT, Int.reduceLE, Int.reduceEq, Nat.reduceLeDiff, Nat.reduceLT, Nat.reduceEqDiff, Nat.reduceMul, Nat.reduceAdd, Nat.reduceBEq, List.length_cons, List.length_nil, String.reduceEq, k0, k2, k4, k6, hw1]
    refine cal_eq (hsub _) ?_
    simp only [go_sem, true_or, or_true, Int.cast_ofNat_Int, not_true_eq_false, true_implies, forall_const, not_false_eq_true, List.size_toArray, Array.size_empty, and_self, ne_eq, not_false_eq_true, Nat.reduceEqDiff, Nat.mul_one, List.contains_nil, List.contains_cons, Bool.false_or, Bool.or_false, false_implies, implies_true, beq_self_eq_true, Nat.reduceBEq, Int.ofNat_le, Int.reduceToNat, Int.reduceLT, Int.reduceLE, Int.reduceEq, Nat.reduceLeDiff, Nat.reduceLT, Nat.reduceEqDiff, Nat.reduceMul, Nat.reduceAdd, Nat.reduceBEq, List.length_cons, List.length_nil, String.reduceEq, encE_eq, k0, k2, k4, k6, app]
    refine cal_eq (eat_sim _ l X.2 qSemi ha.1 hl) ?_
    simp only [go_sem, true_or, or_true, Int.cast_ofNat_Int, not_true_eq_false, true_implies, forall_const, not_false_eq_true, List.size_toArray, Array.size_empty, and_self, ne_eq, not_false_eq_true, Nat.reduceEqDiff, Nat.mul_one, List.contains_nil, List.contains_cons, Bool.false_or, Bool.or_false, false_implies, implies_true, beq_self_eq_true, Nat.reduceBEq, Int.ofNat_le, Int.reduceToNat, Int.reduceLT, Int.reduceLE, Int.reduceEq, Nat.reduceLeDiff, Nat.reduceLT, Nat.reduceEqDiff, Nat.reduceMul, Nat.reduceAdd, Nat.reduceBEq, List.length_cons, List.length_nil, String.reduceEq, k0, k2, k4, k6]
    refine drn_of ⟨[], [], []⟩ [0, 0, 0, 6, 15, 31] (by kernel_rfl) ?_
    simp only [go_sem, true_or, or_true, Int.cast_ofNat_Int, not_true_eq_false, true_implies, forall_const, not_false_eq_true, List.size_toArray, Array.size_empty, and_self, ne_eq, not_false_eq_true, Nat.reduceEqDiff, Nat.mul_one, List.contains_nil, List.contains_cons, Bool.false_or, Bool.or_false, false_implies, implies_true, beq_self_eq_true, Nat.reduceBEq, Int.ofNat_le, Int.reduceToNat, Int.reduceLT, Int.reduceLE, Int.reduceEq, Nat.reduceLeDiff, Nat.reduceLT, Nat.reduceEqDiff, Nat.reduceMul, Nat.reduceAdd, Nat.reduceBEq, List.length_cons, List.length_nil, String.reduceEq, k0, k2, k4, k6]
    refine cald_eq (eat_sim _ l _ qRC hb.1 hl) ?_
    simp only [go_sem, true_or, or_true, Int.cast_ofNat_Int, not_true_eq_false, true_implies, forall_const, not_false_eq_true, List.size_toArray, Array.size_empty, and_self, ne_eq, not_false_eq_true, Nat.reduceEqDiff, Nat.mul_one, List.contains_nil, List.contains_cons, Bool.false_or, Bool.or_false, false_implies, implies_true, beq_self_eq_true, Nat.reduceBEq, Int.ofNat_le, Int.reduceToNat, Int.reduceLT, Int.reduceLE, Int.reduceEq, Nat.reduceLeDiff, Nat.reduceLT, Nat.reduceEqDiff, Nat.reduceMul, Nat.reduceAdd, Nat.reduceBEq, List.length_cons, List.length_nil, String.reduceEq, k0, k2, k4, k6]
    refine hQ .ret _ ?_; clear hQ Q
    refine post_ret m.objs.length m.rows.length (.tup [.agg (encD ⟨name.1, par.1, nee.1, bod.1, [X.1]⟩), ii (eatP l (eatP l X.2 qSemi) qRC)]) ?_ ?_ ?_ ⟨by rw [hgo], rfl⟩
    · simp only [go_sem, true_or, or_true, Int.cast_ofNat_Int, not_true_eq_false, true_implies, forall_const, not_false_eq_true, List.size_toArray, Array.size_empty, and_self, ne_eq, not_false_eq_true, Nat.reduceEqDiff, Nat.mul_one, List.contains_nil, List.contains_cons, Bool.false_or, Bool.or_false, false_implies, implies_true, beq_self_eq_true, Nat.reduceBEq, Int.ofNat_le, Int.reduceToNat, Int.reduceLT, Int.reduceLE, Int.reduceEq, Nat.reduceLeDiff, Nat.reduceLT, Nat.reduceEqDiff, Nat.reduceMul, Nat.reduceAdd, Nat.reduceBEq, List.length_cons, List.length_nil, String.reduceEq, k0, k2, k4, k6, encEs, encE_eq, encD, slS, slT, slE, List.append_nil] <;> rfl
    · simp [IV.np, npL, np_sh, npS, npEs, npTs]
    · refine ⟨?_, ?_, Nat.le_refl _, Nat.le_refl _, fun o x hx hlo => .inl ?_⟩
      · simp
      · dsimp only; rw [htake]
      · dsimp only at hx; rw [List.getElem?_append_left hlo] at hx; exact hx
  | false =>
    rw [if_neg (by simp [hi])] at hgo
    simp only [go_sem, true_or, or_true, Int.cast_ofNat_Int, not_true_eq_false, true_implies, forall_const, not_false_eq_true, List.size_toArray, Array.size_empty, and_self, ne_eq, not_false_eq_true, Nat.reduceEqDiff, Nat.mul_one, List.contains_nil, List.contains_cons, Bool.false_or, Bool.or_false, false_implies, implies_true, beq_self_eq_true, Nat.reduceBEq, Int.ofNat_le, Int.reduceToNat, Int.reduceLT, Int.reduceLE, Int.reduceEq, Nat.reduceLeDiff, Nat.reduceLT, Nat.reduceEqDiff, Nat.reduceMul, Nat.reduceAdd, Nat.reduceBEq, List.length_cons, List.length_nil, String.reduceEq, k0, k2, k4, k6]
    refine drn_of ⟨[], [], []⟩ [0, 0, 0, 6, 15, 31] (by kernel_rfl) ?_
    simp only [go_sem, true_or, or_true, Int.cast_ofNat_Int, not_true_eq_false, true_implies, forall_const, not_false_eq_true, List.size_toArray, Array.size_empty, and_self, ne_eq, not_false_eq_true, Nat.reduceEqDiff, Nat.mul_one, List.contains_nil, List.contains_cons, Bool.false_or, Bool.or_false, false_implies, implies_true, beq_self_eq_true, Nat.reduceBEq, Int.ofNat_le, Int.reduceToNat, Int.reduceLT, Int.reduceLE, Int.reduceEq, Nat.reduceLeDiff, Nat.reduceLT, Nat.reduceEqDiff, Nat.reduceMul, Nat.reduceAdd, Nat.reduceBEq, List.length_cons, List.length_nil, String.reduceEq, k0, k2, k4, k6]
    refine cald_eq (eat_sim _ l _ qRC hbo hl) ?_
    simp only [go_sem, true_or, or_true, Int.cast_ofNat_Int, not_true_eq_false, true_implies, forall_const, not_false_eq_true, List.size_toArray, Array.size_empty, and_self, ne_eq, not_false_eq_true, Nat.reduceEqDiff, Nat.mul_one, List.contains_nil, List.contains_cons, Bool.false_or, Bool.or_false, false_implies, implies_true, beq_self_eq_true, Nat.reduceBEq, Int.ofNat_le, Int.reduceToNat, Int.reduceLT, Int.reduceLE, Int.reduceEq, Nat.reduceLeDiff, Nat.reduceLT, Nat.reduceEqDiff, Nat.reduceMul, Nat.reduceAdd, Nat.reduceBEq, List.length_cons, List.length_nil, String.reduceEq, k0, k2, k4, k6]
    refine hQ .ret _ ?_; clear hQ Q
    refine post_ret m.objs.length m.rows.length (.tup [.agg (encD ⟨name.1, par.1, nee.1, bod.1, []⟩), ii (eatP l bod.2 qRC)]) ?_ ?_ ?_ ⟨by rw [hgo], rfl⟩
    · simp only [go_sem, true_or, or_true, Int.cast_ofNat_Int, not_true_eq_false, true_implies, forall_const, not_false_eq_true, List.size_toArray, Array.size_empty, and_self, ne_eq, not_false_eq_true, Nat.reduceEqDiff, Nat.mul_one, List.contains_nil, List.contains_cons, Bool.false_or, Bool.or_false, false_implies, implies_true, beq_self_eq_true, Nat.reduceBEq, Int.ofNat_le, Int.reduceToNat, Int.reduceLT, Int.reduceLE, Int.reduceEq, Nat.reduceLeDiff, Nat.reduceLT, Nat.reduceEqDiff, Nat.reduceMul, Nat.reduceAdd, Nat.reduceBEq, List.length_cons, List.length_nil, String.reduceEq, k0, k2, k4, k6, encEs, encE_eq, encD, slS, slT, slE, List.append_nil] <;> rfl
    · simp [IV.np, npL, np_sh, npS, npEs, npTs]
    · refine ⟨?_, ?_, Nat.le_refl _, Nat.le_refl _, fun o x hx hlo => .inl ?_⟩
      · simp
      · dsimp only; have := htake []; rw [List.append_nil] at this; rw [this]
      · dsimp only at hx; rw [List.getElem?_append_left hlo] at hx; exact hx
theorem defP_ok {l : List Tok} (T : Toks l) : okA l (defP l).2 := by
  have ho0 : okA l 0 := ⟨by omega, by have := T.pos; omega⟩
  have ha3 := eatP_adv T (t := qLP) (wordP_adv T (eatP_adv T (t := qOp) ho0).1).1
  have hpo := loopP_adv T (l.length + 2) [] _ true ha3.1
  have hd2 := eatP_adv T (t := qLC) (eatP_adv T (t := qRP) hpo).1
  have hno := loopN_adv T (l.length + 2) [] _ hd2.1
  have hbo := loopD_adv T (l.length + 2) [] _ hno
  unfold defP
  dsimp only
  split
  · rename_i hi
    have ha := expr_adv1 T (least := 1) (depth := 1) (isP_lt T hbo hi).2
    exact (eatP_adv T (eatP_adv T ha.1).1).1
  · exact (eatP_adv T hbo).1
end Go.Proofs.Ytphjldhdnmoolaa.A
/- The walks of some functions over the abstract machine. -/
namespace Go.Proofs.Ytphjldhdnmoolaa.A
open Go
structure TokP (s : Bytes) (l : List Tok) : Prop where
  kind : ∀ t ∈ l, t.k ≠ 4
  size : ∀ t ∈ l, t.s.size ≤ s.size
theorem kindT_ne4 (t : Bytes) (b : Bool) : kindT t b ≠ 4 := by
  unfold kindT; split
  · decide
  · split
    · decide
    · split <;> decide
theorem toksF_ok (s : Bytes) : ∀ (f p : Nat) (acc : List Tok), p ≤ s.size → s.size + 1 ≤ f + p → acc.length ≤ p → TokP s acc → (toksF s f p acc).2.1 = 0 → ∃ l, (toksF s f p acc).1 = l ++ [⟨4, ByteArray.empty, s.size⟩] ∧ l.length ≤ s.size ∧ TokP s l
  | 0, p, acc, hp, hf, _, _, _ => by omega
  | f + 1, p, acc, hp, hf, hl, hP, hc => by
    unfold toksF at hc ⊢
    cases hb : (L s)[p]? with
    | none => rw [hb] at hc; exact ⟨acc, rfl, by omega, hP⟩
    | some b =>
      have hlt : p < s.size := by rw [← L_len]; exact (List.getElem?_eq_some_iff.1 hb).1
      rw [hb] at hc
      dsimp only at hc ⊢
      by_cases h1 : b.toNat = 32 ∨ b.toNat = 9 ∨ b.toNat = 10
      · rw [if_pos h1] at hc ⊢
        exact toksF_ok s f (p + 1) acc (by omega) (by omega) (by omega) hP hc
      · rw [if_neg h1] at hc ⊢
        by_cases h2 : b.toNat = 35
        · rw [if_pos h2] at hc ⊢
          have h3 := nlp_le (s := s) (k := p) hp
          have h4 : p < nlp s p := by
            rw [nlp_step hb, if_neg (by omega)]
            have := (nlp_le (s := s) (k := p + 1) (by omega)).1
            omega
          exact toksF_ok s f _ acc h3.2 (by omega) (by omega) hP hc
        · rw [if_neg h2] at hc ⊢
          have hle := lastE_le (s := s) (a := p) (e := s.size) hp
          generalize lastE s p s.size = e at hc hle ⊢
          by_cases h3 : kindT (s.extract p e) (decide (p < e)) = 0
          · rw [if_pos h3] at hc; exact absurd hc (by simp)
          · rw [if_neg h3] at hc ⊢
            have hpe := kind_ne h3 hle.2
            refine toksF_ok s f e _ hle.2 (by omega) (by simp; omega) ⟨?_, ?_⟩ hc
            · intro t ht
              rcases List.mem_append.1 ht with h | h
              · exact hP.kind t h
              · simp at h; subst h; exact kindT_ne4 _ _
            · intro t ht
              rcases List.mem_append.1 ht with h | h
              · exact hP.size t h
              · simp at h; subst h; dsimp only; rw [ext_size]; omega
theorem tokens_ok {s : Bytes} (h : (tokens s).2.1 = 0) : ∃ l, (tokens s).1 = l ++ [⟨4, ByteArray.empty, s.size⟩] ∧ l.length ≤ 480 ∧ s.size ≤ 480 ∧ TokP s l := by
  unfold tokens at h ⊢
  by_cases hb : 480 < s.size
  · rw [if_pos hb] at h; exact absurd h (by decide)
  · rw [if_neg hb] at h ⊢
    obtain ⟨l, h1, h2, h3⟩ := toksF_ok s (s.size + 1) 0 [] (by omega) (by omega) (by simp) ⟨by simp, by simp⟩ h
    exact ⟨l, h1, by omega, by omega, h3⟩
theorem Toks.of {l : List Tok} {t : Tok} (ht : t.k = 4) (hl : l.length ≤ 480) (hk : ∀ t ∈ l, t.k ≠ 4) : Toks (l ++ [t]) := by
  refine ⟨by simp, by simp; omega, fun p h0 h1 hk4 => ?_⟩
  obtain ⟨n, rfl⟩ := nat_of h0
  simp only [List.length_append, List.length_cons, List.length_nil] at h1 ⊢
  by_cases e : n = l.length
  · exfalso; apply hk4; subst e; unfold tk; simp [ht]
  · omega
theorem tk_size {s : Bytes} {l : List Tok} {t : Tok} (hP : TokP s l) (ht : t.s.size ≤ s.size) (hs : s.size < 900000) (p : Int) : (tk (l ++ [t]) p).s.size < 900000 := by
  unfold tk
  rw [List.getD_eq_getElem?_getD]
  cases h : (l ++ [t])[p.toNat]? with
  | none => simp
  | some x =>
    simp only [Option.getD_some]
    rcases List.mem_append.1 (List.mem_of_getElem? h) with h | h
    · have := hP.size x h; omega
    · simp at h; subst h; omega
set_option maxRecDepth 100000 in
set_option maxHeartbeats 4000000 in
theorem parse_sim (m : Mem) (s : Bytes) (hs : s.size < 900000) : Sim 22 [ss s] m (fun r m' => r = .tup [.agg (encD (parse s).1), ii (parse s).2.1, ii (parse s).2.2] ∧ m' = m) := by
  refine Sim.ofS 48 [.cell 2 27, .tmp 3, .tmp 4] Try.func22 rfl rfl rfl (by simp) fun wr => ?_
  simp only [go_sem, true_or, or_true, Int.cast_ofNat_Int, not_true_eq_false, true_implies, forall_const, not_false_eq_true, List.size_toArray, Array.size_empty, and_self, ne_eq, not_false_eq_true, Nat.reduceEqDiff, Nat.mul_one, List.contains_nil, List.contains_cons, Bool.false_or, Bool.or_false, false_implies, implies_true, beq_self_eq_true, Nat.reduceBEq, Int.ofNat_le, Int.reduceToNat, Int.reduceLT, Int.reduceLE, Int.reduceEq, Nat.reduceLeDiff, Nat.reduceLT, Nat.reduceEqDiff, Nat.reduceMul, Nat.reduceAdd, Nat.reduceBEq, List.length_cons, List.length_nil, String.reduceEq]
  have hgo : parse s = parse s := rfl
  conv at hgo => rhs; unfold parse
  dsimp only at hgo
  refine TS.of [] fun Q hQ => ?_
  simp only [go_sem, true_or, or_true, Int.cast_ofNat_Int, not_true_eq_false, true_implies, forall_const, not_false_eq_true, List.size_toArray, Array.size_empty, and_self, ne_eq, not_false_eq_true, Nat.reduceEqDiff, Nat.mul_one, List.contains_nil, List.contains_cons, Bool.false_or, Bool.or_false, false_implies, implies_true, beq_self_eq_true, Nat.reduceBEq, Int.ofNat_le, Int.reduceToNat, Int.reduceLT, Int.reduceLE, Int.reduceEq, Nat.reduceLeDiff, Nat.reduceLT, Nat.reduceEqDiff, Nat.reduceMul, Nat.reduceAdd, Nat.reduceBEq, List.length_cons, List.length_nil, String.reduceEq]
  refine cal_eq (tokens_sim _ s hs) ?_
  by_cases hc : (tokens s).2.1 = 0
  · rw [if_neg (by simp [hc])] at hgo
    obtain ⟨l0, h1, h2, h2', h3⟩ := tokens_ok hc
    have T : Toks (tokens s).1 := by rw [h1]; exact Toks.of rfl h2 h3.kind
    have hsz : ∀ p, (tk (tokens s).1 p).s.size < 900000 := by rw [h1]; exact tk_size h3 (by simp) hs
    have hd := defP_sim T hsz
    have hok := defP_ok T
    generalize (tokens s).1 = l at hgo T hsz hd hok ⊢
    generalize defP l = D at hgo hd hok ⊢
    have hl := T.lt
    obtain ⟨hk1, hk2⟩ := id hok
    simp only [go_sem, true_or, or_true, Int.cast_ofNat_Int, not_true_eq_false, true_implies, forall_const, not_false_eq_true, List.size_toArray, Array.size_empty, and_self, ne_eq, not_false_eq_true, Nat.reduceEqDiff, Nat.mul_one, List.contains_nil, List.contains_cons, Bool.false_or, Bool.or_false, false_implies, implies_true, beq_self_eq_true, Nat.reduceBEq, Int.ofNat_le, Int.reduceToNat, Int.reduceLT, Int.reduceLE, Int.reduceEq, Nat.reduceLeDiff, Nat.reduceLT, Nat.reduceEqDiff, Nat.reduceMul, Nat.reduceAdd, Nat.reduceBEq, List.length_cons, List.length_nil, String.reduceEq, hc]
    refine cal_eq (hd _) ?_
    simp only [go_sem, true_or, or_true, Int.cast_ofNat_Int, not_true_eq_false, true_implies, forall_const, not_false_eq_true, List.size_toArray, Array.size_empty, and_self, ne_eq, not_false_eq_true, Nat.reduceEqDiff, Nat.mul_one, List.contains_nil, List.contains_cons, Bool.false_or, Bool.or_false, false_implies, implies_true, beq_self_eq_true, Nat.reduceBEq, Int.ofNat_le, Int.reduceToNat, Int.reduceLT, Int.reduceLE, Int.reduceEq, Nat.reduceLeDiff, Nat.reduceLT, Nat.reduceEqDiff, Nat.reduceMul, Nat.reduceAdd, Nat.reduceBEq, List.length_cons, List.length_nil, String.reduceEq, encD]
    by_cases h0 : 0 ≤ D.2
    · obtain ⟨n, hn⟩ := nat_of h0
      rw [hn] at hk1 hk2 hgo h0 ⊢
      have hlt : n < l.length := by omega
      have hat := encK_at (tk_at hlt)
      have hl3 := encK_lt hlt
      have hnn : ¬ (n : Int) < 0 := by omega
      by_cases h4 : (tk l n).k = 4
      · have hf : fixP l n = n := by simp [fixP, h4]
        rw [hf, if_neg hnn] at hgo
        simp only [go_sem, true_or, or_true, Int.cast_ofNat_Int, not_true_eq_false, true_implies, forall_const, not_false_eq_true, List.size_toArray, Array.size_empty, and_self, ne_eq, not_false_eq_true, Nat.reduceEqDiff, Nat.mul_one, List.contains_nil, List.contains_cons, Bool.false_or, Bool.or_false, false_implies, implies_true, beq_self_eq_true, Nat.reduceBEq, Int.ofNat_le, Int.reduceToNat, Int.reduceLT, Int.reduceLE, Int.reduceEq, Nat.reduceLeDiff, Nat.reduceLT, Nat.reduceEqDiff, Nat.reduceMul, Nat.reduceAdd, Nat.reduceBEq, List.length_cons, List.length_nil, String.reduceEq, h0, hlt, hat, hl3, h4, hnn]
        refine hQ .ret _ ?_; clear hQ Q; refine post_ret _ _ (.tup [.agg (encD D.1), ii 0, ii 0]) ?_ ?_ (DropW.tail0 _ rfl) ⟨?_, rfl⟩
        · simp only [go_sem, true_or, or_true, Int.cast_ofNat_Int, not_true_eq_false, true_implies, forall_const, not_false_eq_true, List.size_toArray, Array.size_empty, and_self, ne_eq, not_false_eq_true, Nat.reduceEqDiff, Nat.mul_one, List.contains_nil, List.contains_cons, Bool.false_or, Bool.or_false, false_implies, implies_true, beq_self_eq_true, Nat.reduceBEq, Int.ofNat_le, Int.reduceToNat, Int.reduceLT, Int.reduceLE, Int.reduceEq, Nat.reduceLeDiff, Nat.reduceLT, Nat.reduceEqDiff, Nat.reduceMul, Nat.reduceAdd, Nat.reduceBEq, List.length_cons, List.length_nil, String.reduceEq, encD] <;> rfl
        · simp [IV.np, npL, npE, npS, npEs, npTs, np_sh]
        · rw [hgo]
      · have hf : fixP l n = bad n := by simp [fixP, h4]
        have hbn : bad (n : Int) < 0 := by unfold bad; omega
        have hbb : -1 - bad (n : Int) = n := by unfold bad; omega
        have hwb : IntKind.i64.wrap (-1 - bad (n : Int)) = n := by rw [hbb]; exact wrap_small (by omega) (by omega)
        rw [hf, if_pos hbn, hbb] at hgo
        simp only [go_sem, true_or, or_true, Int.cast_ofNat_Int, not_true_eq_false, true_implies, forall_const, not_false_eq_true, List.size_toArray, Array.size_empty, and_self, ne_eq, not_false_eq_true, Nat.reduceEqDiff, Nat.mul_one, List.contains_nil, List.contains_cons, Bool.false_or, Bool.or_false, false_implies, implies_true, beq_self_eq_true, Nat.reduceBEq, Int.ofNat_le, Int.reduceToNat, Int.reduceLT, Int.reduceLE, Int.reduceEq, Nat.reduceLeDiff, Nat.reduceLT, Nat.reduceEqDiff, Nat.reduceMul, Nat.reduceAdd, Nat.reduceBEq, List.length_cons, List.length_nil, String.reduceEq, h0, hlt, hat, hl3, h4, hnn]
        refine cal_eq (bad_sim _ n (by omega)) ?_
        simp only [go_sem, true_or, or_true, Int.cast_ofNat_Int, not_true_eq_false, true_implies, forall_const, not_false_eq_true, List.size_toArray, Array.size_empty, and_self, ne_eq, not_false_eq_true, Nat.reduceEqDiff, Nat.mul_one, List.contains_nil, List.contains_cons, Bool.false_or, Bool.or_false, false_implies, implies_true, beq_self_eq_true, Nat.reduceBEq, Int.ofNat_le, Int.reduceToNat, Int.reduceLT, Int.reduceLE, Int.reduceEq, Nat.reduceLeDiff, Nat.reduceLT, Nat.reduceEqDiff, Nat.reduceMul, Nat.reduceAdd, Nat.reduceBEq, List.length_cons, List.length_nil, String.reduceEq, hbn]
        refine drn_of ⟨[46], [], []⟩ [0, 0, 0, 4, 14, 30, 62, 1, 129, 511] (by kernel_rfl) ?_
        simp only [go_sem, true_or, or_true, Int.cast_ofNat_Int, not_true_eq_false, true_implies, forall_const, not_false_eq_true, List.size_toArray, Array.size_empty, and_self, ne_eq, not_false_eq_true, Nat.reduceEqDiff, Nat.mul_one, List.contains_nil, List.contains_cons, Bool.false_or, Bool.or_false, false_implies, implies_true, beq_self_eq_true, Nat.reduceBEq, Int.ofNat_le, Int.reduceToNat, Int.reduceLT, Int.reduceLE, Int.reduceEq, Nat.reduceLeDiff, Nat.reduceLT, Nat.reduceEqDiff, Nat.reduceMul, Nat.reduceAdd, Nat.reduceBEq, List.length_cons, List.length_nil, String.reduceEq, hbn, hwb, h0, hlt, hat, hl3]
        refine hQ .ret _ ?_; clear hQ Q; refine post_ret _ _ (.tup [.agg (encD D0), ii 8, ii (tk l n).p]) ?_ ?_ (DropW.tail0 _ rfl) ⟨?_, rfl⟩
        · simp only [go_sem, true_or, or_true, Int.cast_ofNat_Int, not_true_eq_false, true_implies, forall_const, not_false_eq_true, List.size_toArray, Array.size_empty, and_self, ne_eq, not_false_eq_true, Nat.reduceEqDiff, Nat.mul_one, List.contains_nil, List.contains_cons, Bool.false_or, Bool.or_false, false_implies, implies_true, beq_self_eq_true, Nat.reduceBEq, Int.ofNat_le, Int.reduceToNat, Int.reduceLT, Int.reduceLE, Int.reduceEq, Nat.reduceLeDiff, Nat.reduceLT, Nat.reduceEqDiff, Nat.reduceMul, Nat.reduceAdd, Nat.reduceBEq, List.length_cons, List.length_nil, String.reduceEq, encD] <;> rfl
        · simp [IV.np, npL, npE, npS, npEs, npTs, np_sh]
        · rw [hgo]
    · have hneg : D.2 < 0 := by omega
      have hf : fixP l D.2 = D.2 := by simp [fixP, h0]
      rw [hf, if_pos hneg] at hgo
      obtain ⟨n, hn⟩ := nat_of (p := -1 - D.2) (by omega)
      have hlt : n < l.length := by omega
      have hat := encK_at (tk_at hlt)
      have hl3 := encK_lt hlt
      have hwb : IntKind.i64.wrap (-1 - D.2) = n := by rw [hn]; exact wrap_small (by omega) (by omega)
      have h0' : (0 : Int) ≤ n := by omega
      rw [hn] at hgo
      simp only [go_sem, true_or, or_true, Int.cast_ofNat_Int, not_true_eq_false, true_implies, forall_const, not_false_eq_true, List.size_toArray, Array.size_empty, and_self, ne_eq, not_false_eq_true, Nat.reduceEqDiff, Nat.mul_one, List.contains_nil, List.contains_cons, Bool.false_or, Bool.or_false, false_implies, implies_true, beq_self_eq_true, Nat.reduceBEq, Int.ofNat_le, Int.reduceToNat, Int.reduceLT, Int.reduceLE, Int.reduceEq, Nat.reduceLeDiff, Nat.reduceLT, Nat.reduceEqDiff, Nat.reduceMul, Nat.reduceAdd, Nat.reduceBEq, List.length_cons, List.length_nil, String.reduceEq, h0, hneg]
      refine drn_of ⟨[46], [], []⟩ [0, 0, 0, 4, 14, 30, 62, 1, 129, 511] (by kernel_rfl) ?_
      simp only [go_sem, true_or, or_true, Int.cast_ofNat_Int, not_true_eq_false, true_implies, forall_const, not_false_eq_true, List.size_toArray, Array.size_empty, and_self, ne_eq, not_false_eq_true, Nat.reduceEqDiff, Nat.mul_one, List.contains_nil, List.contains_cons, Bool.false_or, Bool.or_false, false_implies, implies_true, beq_self_eq_true, Nat.reduceBEq, Int.ofNat_le, Int.reduceToNat, Int.reduceLT, Int.reduceLE, Int.reduceEq, Nat.reduceLeDiff, Nat.reduceLT, Nat.reduceEqDiff, Nat.reduceMul, Nat.reduceAdd, Nat.reduceBEq, List.length_cons, List.length_nil, String.reduceEq, hneg, hwb, h0', hlt, hat, hl3]
      refine hQ .ret _ ?_; clear hQ Q; refine post_ret _ _ (.tup [.agg (encD D0), ii 8, ii (tk l n).p]) ?_ ?_ (DropW.tail0 _ rfl) ⟨?_, rfl⟩
      · simp only [go_sem, true_or, or_true, Int.cast_ofNat_Int, not_true_eq_false, true_implies, forall_const, not_false_eq_true, List.size_toArray, Array.size_empty, and_self, ne_eq, not_false_eq_true, Nat.reduceEqDiff, Nat.mul_one, List.contains_nil, List.contains_cons, Bool.false_or, Bool.or_false, false_implies, implies_true, beq_self_eq_true, Nat.reduceBEq, Int.ofNat_le, Int.reduceToNat, Int.reduceLT, Int.reduceLE, Int.reduceEq, Nat.reduceLeDiff, Nat.reduceLT, Nat.reduceEqDiff, Nat.reduceMul, Nat.reduceAdd, Nat.reduceBEq, List.length_cons, List.length_nil, String.reduceEq, encD] <;> rfl
      · simp [IV.np, npL, npE, npS, npEs, npTs, np_sh]
      · rw [hgo]
  · rw [if_pos (by simp [hc])] at hgo
    simp only [go_sem, true_or, or_true, Int.cast_ofNat_Int, not_true_eq_false, true_implies, forall_const, not_false_eq_true, List.size_toArray, Array.size_empty, and_self, ne_eq, not_false_eq_true, Nat.reduceEqDiff, Nat.mul_one, List.contains_nil, List.contains_cons, Bool.false_or, Bool.or_false, false_implies, implies_true, beq_self_eq_true, Nat.reduceBEq, Int.ofNat_le, Int.reduceToNat, Int.reduceLT, Int.reduceLE, Int.reduceEq, Nat.reduceLeDiff, Nat.reduceLT, Nat.reduceEqDiff, Nat.reduceMul, Nat.reduceAdd, Nat.reduceBEq, List.length_cons, List.length_nil, String.reduceEq, hc]
    refine hQ .ret _ ?_; clear hQ Q; refine post_ret _ _ (.tup [.agg (encD D0), ii (tokens s).2.1, ii (tokens s).2.2]) ?_ ?_ (DropW.tail0 _ rfl) ⟨?_, rfl⟩
    · simp only [go_sem, true_or, or_true, Int.cast_ofNat_Int, not_true_eq_false, true_implies, forall_const, not_false_eq_true, List.size_toArray, Array.size_empty, and_self, ne_eq, not_false_eq_true, Nat.reduceEqDiff, Nat.mul_one, List.contains_nil, List.contains_cons, Bool.false_or, Bool.or_false, false_implies, implies_true, beq_self_eq_true, Nat.reduceBEq, Int.ofNat_le, Int.reduceToNat, Int.reduceLT, Int.reduceLE, Int.reduceEq, Nat.reduceLeDiff, Nat.reduceLT, Nat.reduceEqDiff, Nat.reduceMul, Nat.reduceAdd, Nat.reduceBEq, List.length_cons, List.length_nil, String.reduceEq, encD] <;> rfl
    · simp [IV.np, npL, npE, npS, npEs, npTs, np_sh]
    · rw [hgo]
end Go.Proofs.Ytphjldhdnmoolaa.A
/- The walks of some functions over the abstract machine. -/
namespace Go.Proofs.Ytphjldhdnmoolaa.A
open Go
/-! maps from names to numbers -/
abbrev Ent := Bytes × Int × Nat
def encN (e : Ent) : MapEntry := ⟨.string e.1, .int .i64 e.2.1, e.2.2⟩
def encM (l : List Ent) : Array MapEntry := (l.map encN).toArray
def fnd (s : Bytes) : List Ent → Nat → Option (Nat × Int)
  | [], _ => none
  | e :: l, i => if s = e.1 then some (i, e.2.1) else fnd s l (i + 1)
def fndV (s : Bytes) (l : List Ent) : Option (Nat × Value) := (fnd s l 0).map fun p => (p.1, .int .i64 p.2)
def getM (s : Bytes) : List Ent → Option Int
  | [] => none
  | e :: l => if s = e.1 then some e.2.1 else getM s l
def repl (s : Bytes) (v : Int) : List Ent → List Ent
  | [] => []
  | e :: l => if s = e.1 then (s, v, e.2.2) :: l else e :: repl s v l
def putM (s : Bytes) (v : Int) (l : List Ent) (c : Nat) : List Ent × Nat := match getM s l with
  | some _ => (repl s v l, c)
  | none => (l ++ [(s, v, c)], c + 1)
def delM (s : Bytes) : List Ent → List Ent
  | [] => []
  | e :: l => if s = e.1 then l else e :: delM s l
theorem fnd_get (s : Bytes) : ∀ (l : List Ent) (i : Nat), (fnd s l i).map (·.2) = getM s l
  | [], i => rfl
  | e :: l, i => by
    unfold fnd getM
    split
    · rfl
    · exact fnd_get s l (i + 1)
theorem fnd_shift (s : Bytes) : ∀ (l : List Ent) (i : Nat), fnd s l (i + 1) = (fnd s l i).map fun p => (p.1 + 1, p.2)
  | [], i => rfl
  | e :: l, i => by
    unfold fnd
    split
    · rfl
    · exact fnd_shift s l (i + 1)
theorem bq (a b : Bytes) : (a == b) = decide (a = b) := by
  rw [Bool.eq_iff_iff]; simp only [decide_eq_true_eq]
  cases a; cases b
  constructor
  · intro h; exact congrArg ByteArray.mk (eq_of_beq (α := Array UInt8) h)
  · intro h; cases h; exact beq_self_eq_true (α := Array UInt8) _
theorem findNow_enc (s : Bytes) : ∀ (l : List Ent) (i : Nat), Instr.findNow .string (.string s) (l.map encN) i = some ((fnd s l i).map fun p => (p.1, .int .i64 p.2))
  | [], i => rfl
  | e :: l, i => by
    unfold fnd
    simp only [List.map_cons, Instr.findNow]
    by_cases h : s = e.1
    · subst h
      rw [show Instr.sameNow .string (.string e.1) (encN e).key = some true by show some (e.1 == e.1) = some true; rw [bq]; simp]
      simp [encN]
    · rw [show Instr.sameNow .string (.string s) (encN e).key = some false by show some (s == e.1) = some false; rw [bq]; simp [h]]
      rw [if_neg h]
      exact findNow_enc s l (i + 1)
theorem mlook_enc (s : Bytes) (l : List Ent) : mlook (encM l) s = some (fndV s l) := findNow_enc s l 0
theorem encM_size (l : List Ent) : (encM l).size = l.length := by simp [encM]
theorem mval_enc (s : Bytes) (l : List Ent) : mval (fndV s l) = .int .i64 ((getM s l).getD 0) := by
  unfold fndV
  rw [← fnd_get s l 0]
  cases fnd s l 0 <;> rfl
theorem some_enc (s : Bytes) (l : List Ent) : (fndV s l).isSome = (getM s l).isSome := by
  unfold fndV
  rw [← fnd_get s l 0]
  cases fnd s l 0 <;> rfl
theorem modify_enc (s : Bytes) (v : Int) : ∀ (l : List Ent) (i : Nat) (x : Int), fnd s l 0 = some (i, x) → (l.map encN).modify i (fun e => { e with key := .string s, val := .int .i64 v }) = (repl s v l).map encN
  | [], i, x, h => by cases h
  | e :: l, i, x, h => by
    unfold fnd at h
    unfold repl
    split at h
    · rename_i hs; cases h; rw [if_pos hs]; rfl
    · rename_i hs
      rw [if_neg hs]
      rw [fnd_shift] at h
      cases hf : fnd s l 0 with
      | none => rw [hf] at h; cases h
      | some p =>
        obtain ⟨j, y⟩ := p
        rw [hf] at h
        cases h
        simp only [List.map_cons, List.modify_succ_cons]
        rw [modify_enc s v l j _ hf]
theorem erase_enc (s : Bytes) : ∀ (l : List Ent) (i : Nat) (x : Int), fnd s l 0 = some (i, x) → (l.map encN).eraseIdx i = (delM s l).map encN
  | [], i, x, h => by cases h
  | e :: l, i, x, h => by
    unfold fnd at h
    unfold delM
    split at h
    · rename_i hs; cases h; rw [if_pos hs]; rfl
    · rename_i hs
      rw [if_neg hs]
      rw [fnd_shift] at h
      cases hf : fnd s l 0 with
      | none => rw [hf] at h; cases h
      | some p =>
        obtain ⟨j, y⟩ := p
        rw [hf] at h
        cases h
        simp only [List.map_cons, List.eraseIdx_cons_succ]
        rw [erase_enc s l j _ hf]
theorem fnd_none {s : Bytes} {l : List Ent} : getM s l = none ↔ fnd s l 0 = none := by
  rw [← fnd_get s l 0]; cases fnd s l 0 <;> simp
theorem mupd_enc (s : Bytes) (v : Int) (l : List Ent) (c : Nat) : mupd (encM l) c s (.int .i64 v) (fndV s l) = (encM (putM s v l c).1, (putM s v l c).2) := by
  unfold fndV putM
  cases hf : fnd s l 0 with
  | none => rw [fnd_none.2 hf]; simp [mupd, encM, encN]
  | some p =>
    obtain ⟨i, x⟩ := p
    have : ∃ y, getM s l = some y := ⟨x, by rw [← fnd_get s l 0, hf]; rfl⟩
    obtain ⟨y, hy⟩ := this
    rw [hy]
    simp only [Option.map_some, mupd, encM]
    rw [← modify_enc s v l i x hf]
    simp
theorem delM_none {s : Bytes} : ∀ {l : List Ent}, getM s l = none → delM s l = l
  | [], h => rfl
  | e :: l, h => by
    unfold getM at h; unfold delM
    split at h
    · cases h
    · rename_i hs; rw [if_neg hs, delM_none h]
theorem mdel_enc (s : Bytes) (l : List Ent) : mdel (encM l) (fndV s l) = encM (delM s l) := by
  unfold fndV
  cases hf : fnd s l 0 with
  | none => rw [delM_none (fnd_none.2 hf)]; rfl
  | some p =>
    obtain ⟨i, x⟩ := p
    simp only [Option.map_some, mdel, encM]
    rw [← erase_enc s l i x hf]
    simp
theorem ment_enc {s : Bytes} {l : List Ent} {c : Nat} (h : getM s l = none) : ment (encM l) c s (fndV s l) = (encM (l ++ [(s, 0, c)]), c + 1) := by
  unfold fndV
  rw [fnd_none.1 h]
  simp [ment, encM, encN]
theorem born_enc {s : Bytes} {l : List Ent} {c : Nat} (h : getM s l = none) : bornAt (encM l) c (fndV s l) = c := by
  unfold fndV
  rw [fnd_none.1 h]
  rfl
theorem estore_enc {s : Bytes} {l : List Ent} {c : Nat} {v : Int} (h : ∀ e ∈ l, e.2.2 < c) : (encM (l ++ [(s, 0, c)])).findIdx? (fun e => decide ((e.born : Int) = c)) = some l.length ∧ ((encM (l ++ [(s, 0, c)])).modify l.length fun e => { e with val := .int .i64 v }) = encM (l ++ [(s, v, c)]) := by
  constructor
  · simp only [encM, List.findIdx?_toArray, List.map_append, List.map_cons, List.map_nil]
    rw [List.findIdx?_append]
    have : (l.map encN).findIdx? (fun e => decide ((e.born : Int) = c)) = none := by
      rw [List.findIdx?_eq_none_iff]
      intro e he
      obtain ⟨x, hx, rfl⟩ := List.mem_map.1 he
      have := h x hx
      show decide (((x.2.2 : Nat) : Int) = (c : Int)) = false
      exact decide_eq_false (by omega)
    rw [this]
    simp [encN]
  · simp only [encM, List.map_append, List.map_cons, List.map_nil]
    have : ∀ (a : List MapEntry) (x : MapEntry) (f : MapEntry → MapEntry), (a ++ [x]).modify a.length f = a ++ [f x] := by
      intro a x f
      induction a with
      | nil => rfl
      | cons y a ih => simp [ih]
    have h2 := this (l.map encN) (encN (s, 0, c)) (fun e => { e with val := .int .i64 v })
    rw [List.length_map] at h2
    simp only [List.modify_toArray]
    rw [h2]
    rfl
end Go.Proofs.Ytphjldhdnmoolaa.A
/- The walks of some functions over the abstract machine. -/
namespace Go.Proofs.Ytphjldhdnmoolaa.A
open Go
structure CS where
  kn : List Ent
  kc : Nat
  us : List Ent
  uc : Nat
  ft : Option (Int × Int)
  rd : Bool
  md : Int
  tn : Bool
def ftI : Option (Int × Int) → IV
  | none => .v (.pointer none)
  | some p => .ref [ii p.1, ii p.2]
abbrev cellsC (o : Nat) (cs : CS) : List IV := [.map o, .map (o + 1), ftI cs.ft, bb cs.rd, ii cs.md, ii 0, ii 0, bb cs.tn]
abbrev CM (B : List IObj) (cs : CS) (R : List IObj) : List IObj := B ++ (.map (encM cs.kn) cs.kc :: .map (encM cs.us) cs.uc :: .cells (cellsC B.length cs) :: R)
def SimC (f : FuncId) (args : List IV) (cs : CS) (r : IV) (cs' : CS) : Prop := ∀ (B R : List IObj) (rw_ : List Nat), Sim f (.ptr (B.length + 2) 0 :: args) ⟨CM B cs R, rw_⟩ (fun x m' => x = r ∧ m' = ⟨CM B cs' R, rw_⟩)
def CS.fail (code at_ : Int) (cs : CS) : CS := if cs.ft.isNone then { cs with ft := some (code, at_) } else cs
theorem ftI_none : ftI none = .v (.pointer none) := rfl
theorem ftI_some {p : Int × Int} : ftI (some p) = .ref [ii p.1, ii p.2] := rfl
theorem np_ft {no nr : Nat} : ∀ f, (ftI f).np no nr = true
  | none => rfl
  | some p => by simp [ftI, IV.np, npL]
theorem DropW.ck (B : List IObj) (cs cs' : CS) (R X : List IObj) (rw_ rs : List Nat) : DropW ⟨CM B cs R, rw_⟩ (B.length + (R.length + 3)) rw_.length ⟨CM B cs' (R ++ X), rw_ ++ rs⟩ ⟨CM B cs' R, rw_⟩ := by
  refine ⟨?_, by simp, by simp [CM], Nat.le_refl _, fun o x hx hl => ?_⟩
  · have : (CM B cs' (R ++ X)) = CM B cs' R ++ X := by simp [CM]
    simp only [this]
    rw [List.take_left' (by simp [CM])]
  · simp only [CM] at hx ⊢
    by_cases h1 : o < B.length
    · left; rw [List.getElem?_append_left h1] at hx ⊢; exact hx
    · rw [List.getElem?_append_right (by omega)] at hx ⊢
      generalize hk : o - B.length = k at hx ⊢
      match k, hx with
      | 0, hx => right; simp at hx; subst hx; rfl
      | 1, hx => right; simp at hx; subst hx; rfl
      | 2, hx =>
        right; simp at hx; subst hx
        simp [IObj.np, npL, IV.np, np_ft] <;> omega
      | k + 3, hx =>
        left
        simp only [List.getElem?_cons_succ] at hx ⊢
        rw [List.getElem?_append_left (by omega)] at hx
        exact hx
theorem DropW.ck0 (B : List IObj) (cs cs' : CS) (R : List IObj) (rw_ : List Nat) : DropW ⟨CM B cs R, rw_⟩ (B.length + (R.length + 3)) rw_.length ⟨CM B cs' R, rw_⟩ ⟨CM B cs' R, rw_⟩ := by
  have := DropW.ck B cs cs' R [] rw_ []
  simpa using this
theorem DropW.ckX (B : List IObj) (cs cs' : CS) (R : List IObj) (rw_ : List Nat) (X : List IObj) : DropW ⟨CM B cs R, rw_⟩ (B.length + (R.length + 3)) rw_.length ⟨CM B cs' (R ++ X), rw_⟩ ⟨CM B cs' R, rw_⟩ := by
  have := DropW.ck B cs cs' R X rw_ []
  simpa using this
set_option maxRecDepth 100000 in
set_option maxHeartbeats 4000000 in
theorem fail_sim (cs : CS) (code at_ : Int) : SimC 56 [ii code, ii at_] cs (.tup []) (cs.fail code at_) := by
  intro B R rw_
  refine Sim.ofS 18 [] Try.func56 rfl rfl rfl (by simp) fun wr => ?_
  simp only [go_sem, true_or, or_true, Int.cast_ofNat_Int, not_true_eq_false, true_implies, forall_const, not_false_eq_true, List.size_toArray, Array.size_empty, and_self, ne_eq, not_false_eq_true, Nat.reduceEqDiff, Nat.mul_one, List.contains_nil, List.contains_cons, Bool.false_or, Bool.or_false, false_implies, implies_true, beq_self_eq_true, Nat.reduceBEq, Int.ofNat_le, Int.reduceToNat, Int.reduceLT, Int.reduceLE, Int.reduceEq, Nat.reduceLeDiff, Nat.reduceLT, Nat.reduceEqDiff, Nat.reduceMul, Nat.reduceAdd, Nat.reduceBEq, List.length_cons, List.length_nil, String.reduceEq]
  cases hf : cs.ft with
  | none =>
    have hgo : cs.fail code at_ = { cs with ft := some (code, at_) } := by simp [CS.fail, hf]
    refine TS.of [15] fun Q hQ => ?_
    simp only [go_sem, true_or, or_true, Int.cast_ofNat_Int, not_true_eq_false, true_implies, forall_const, not_false_eq_true, List.size_toArray, Array.size_empty, and_self, ne_eq, not_false_eq_true, Nat.reduceEqDiff, Nat.mul_one, List.contains_nil, List.contains_cons, Bool.false_or, Bool.or_false, false_implies, implies_true, beq_self_eq_true, Nat.reduceBEq, Int.ofNat_le, Int.reduceToNat, Int.reduceLT, Int.reduceLE, Int.reduceEq, Nat.reduceLeDiff, Nat.reduceLT, Nat.reduceEqDiff, Nat.reduceMul, Nat.reduceAdd, Nat.reduceBEq, List.length_cons, List.length_nil, String.reduceEq, hf, ftI_none]
    refine hQ .normal _ ?_; exact post_end _ _ (.tup []) (by simp only [go_sem, true_or, or_true, Int.cast_ofNat_Int, not_true_eq_false, true_implies, forall_const, not_false_eq_true, List.size_toArray, Array.size_empty, and_self, ne_eq, not_false_eq_true, Nat.reduceEqDiff, Nat.mul_one, List.contains_nil, List.contains_cons, Bool.false_or, Bool.or_false, false_implies, implies_true, beq_self_eq_true, Nat.reduceBEq, Int.ofNat_le, Int.reduceToNat, Int.reduceLT, Int.reduceLE, Int.reduceEq, Nat.reduceLeDiff, Nat.reduceLT, Nat.reduceEqDiff, Nat.reduceMul, Nat.reduceAdd, Nat.reduceBEq, List.length_cons, List.length_nil, String.reduceEq]) rfl (DropW.ck0 B cs ({ cs with ft := some (code, at_) }) R rw_) ⟨rfl, by rw [hgo]⟩
  | some p =>
    have hgo : cs.fail code at_ = cs := by simp [CS.fail, hf]
    refine TS.of [15] fun Q hQ => ?_
    simp only [go_sem, true_or, or_true, Int.cast_ofNat_Int, not_true_eq_false, true_implies, forall_const, not_false_eq_true, List.size_toArray, Array.size_empty, and_self, ne_eq, not_false_eq_true, Nat.reduceEqDiff, Nat.mul_one, List.contains_nil, List.contains_cons, Bool.false_or, Bool.or_false, false_implies, implies_true, beq_self_eq_true, Nat.reduceBEq, Int.ofNat_le, Int.reduceToNat, Int.reduceLT, Int.reduceLE, Int.reduceEq, Nat.reduceLeDiff, Nat.reduceLT, Nat.reduceEqDiff, Nat.reduceMul, Nat.reduceAdd, Nat.reduceBEq, List.length_cons, List.length_nil, String.reduceEq, hf, ftI_some]
    refine hQ .normal _ ?_; exact post_end _ _ (.tup []) (by simp only [go_sem, true_or, or_true, Int.cast_ofNat_Int, not_true_eq_false, true_implies, forall_const, not_false_eq_true, List.size_toArray, Array.size_empty, and_self, ne_eq, not_false_eq_true, Nat.reduceEqDiff, Nat.mul_one, List.contains_nil, List.contains_cons, Bool.false_or, Bool.or_false, false_implies, implies_true, beq_self_eq_true, Nat.reduceBEq, Int.ofNat_le, Int.reduceToNat, Int.reduceLT, Int.reduceLE, Int.reduceEq, Nat.reduceLeDiff, Nat.reduceLT, Nat.reduceEqDiff, Nat.reduceMul, Nat.reduceAdd, Nat.reduceBEq, List.length_cons, List.length_nil, String.reduceEq]) rfl (DropW.ck0 B cs (cs) R rw_) ⟨rfl, by rw [hgo]⟩
/-- What holds of the names of a checker. -/
structure CS.ok (cs : CS) : Prop where
  kb : ∀ e ∈ cs.kn, e.2.2 < cs.kc
  ub : ∀ e ∈ cs.us, e.2.2 < cs.uc
  pos : ∀ e ∈ cs.us, 0 < e.2.1
  sub : ∀ s, getM s cs.us = none → getM s cs.kn = none
  kpos : ∀ e ∈ cs.kn, 0 < e.2.1
  ul : cs.us.length ≤ 16
def CS.declare (name : Bytes) (kind at_ : Int) (cs : CS) : CS :=
  if cs.ft.isSome then cs
  else if 0 < (getM name cs.us).getD 0 then cs.fail 9 at_
  else if 16 ≤ cs.us.length then cs.fail 15 at_
  else { cs with us := cs.us ++ [(name, kind, cs.uc)], uc := cs.uc + 1, kn := cs.kn ++ [(name, kind, cs.kc)], kc := cs.kc + 1 }
theorem getM_mem {s : Bytes} : ∀ {l : List Ent} {v : Int}, getM s l = some v → ∃ e ∈ l, e.1 = s ∧ e.2.1 = v
  | [], v, h => by cases h
  | e :: l, v, h => by
    unfold getM at h
    split at h
    · rename_i hs; cases h; exact ⟨e, List.mem_cons_self .., hs.symm, rfl⟩
    · obtain ⟨e', h1, h2⟩ := getM_mem h; exact ⟨e', List.mem_cons_of_mem _ h1, h2⟩
theorem CS.ok.absent {cs : CS} (h : cs.ok) {s : Bytes} (hz : ¬ 0 < (getM s cs.us).getD 0) : getM s cs.us = none ∧ getM s cs.kn = none := by
  have : getM s cs.us = none := by
    cases hg : getM s cs.us with
    | none => rfl
    | some v =>
      exfalso
      rw [hg] at hz
      obtain ⟨e, h1, h2, h3⟩ := getM_mem hg
      have := h.pos e h1
      apply hz
      simp only [Option.getD_some]
      omega
  exact ⟨this, h.sub s this⟩
set_option maxRecDepth 100000 in
set_option maxHeartbeats 4000000 in
theorem declare_sim (cs : CS) (hok : cs.ok) (hlen : cs.us.length < 900000) (name : Bytes) (kind at_ : Int) : SimC 57 [ss name, ii kind, ii at_] cs (.tup []) (cs.declare name kind at_) := by
  intro B R rw_
  refine Sim.ofS 51 [] Try.func57 rfl rfl rfl (by simp) fun wr => ?_
  simp only [go_sem, true_or, or_true, Int.cast_ofNat_Int, not_true_eq_false, true_implies, forall_const, not_false_eq_true, List.size_toArray, Array.size_empty, and_self, ne_eq, not_false_eq_true, Nat.reduceEqDiff, Nat.mul_one, List.contains_nil, List.contains_cons, Bool.false_or, Bool.or_false, false_implies, implies_true, beq_self_eq_true, Nat.reduceBEq, Int.ofNat_le, Int.reduceToNat, Int.reduceLT, Int.reduceLE, Int.reduceEq, Nat.reduceLeDiff, Nat.reduceLT, Nat.reduceEqDiff, Nat.reduceMul, Nat.reduceAdd, Nat.reduceBEq, List.length_cons, List.length_nil, String.reduceEq]
  cases hf : cs.ft with
  | some p =>
    have hgo : cs.declare name kind at_ = cs := by simp [CS.declare, hf]
    refine TS.of [] fun Q hQ => ?_
    simp only [go_sem, true_or, or_true, Int.cast_ofNat_Int, not_true_eq_false, true_implies, forall_const, not_false_eq_true, List.size_toArray, Array.size_empty, and_self, ne_eq, not_false_eq_true, Nat.reduceEqDiff, Nat.mul_one, List.contains_nil, List.contains_cons, Bool.false_or, Bool.or_false, false_implies, implies_true, beq_self_eq_true, Nat.reduceBEq, Int.ofNat_le, Int.reduceToNat, Int.reduceLT, Int.reduceLE, Int.reduceEq, Nat.reduceLeDiff, Nat.reduceLT, Nat.reduceEqDiff, Nat.reduceMul, Nat.reduceAdd, Nat.reduceBEq, List.length_cons, List.length_nil, String.reduceEq, hf, ftI_some]
    refine hQ .ret _ ?_; exact post_ret _ _ (.tup []) (by simp only [go_sem, true_or, or_true, Int.cast_ofNat_Int, not_true_eq_false, true_implies, forall_const, not_false_eq_true, List.size_toArray, Array.size_empty, and_self, ne_eq, not_false_eq_true, Nat.reduceEqDiff, Nat.mul_one, List.contains_nil, List.contains_cons, Bool.false_or, Bool.or_false, false_implies, implies_true, beq_self_eq_true, Nat.reduceBEq, Int.ofNat_le, Int.reduceToNat, Int.reduceLT, Int.reduceLE, Int.reduceEq, Nat.reduceLeDiff, Nat.reduceLT, Nat.reduceEqDiff, Nat.reduceMul, Nat.reduceAdd, Nat.reduceBEq, List.length_cons, List.length_nil, String.reduceEq]) rfl (DropW.ck0 B cs (cs) R rw_) ⟨rfl, by rw [hgo]⟩
  | none =>
    by_cases hz : 0 < (getM name cs.us).getD 0
    · have hgo : cs.declare name kind at_ = cs.fail 9 at_ := by simp [CS.declare, hf, hz]
      refine TS.of [] fun Q hQ => ?_
      simp only [go_sem, true_or, or_true, Int.cast_ofNat_Int, not_true_eq_false, true_implies, forall_const, not_false_eq_true, List.size_toArray, Array.size_empty, and_self, ne_eq, not_false_eq_true, Nat.reduceEqDiff, Nat.mul_one, List.contains_nil, List.contains_cons, Bool.false_or, Bool.or_false, false_implies, implies_true, beq_self_eq_true, Nat.reduceBEq, Int.ofNat_le, Int.reduceToNat, Int.reduceLT, Int.reduceLE, Int.reduceEq, Nat.reduceLeDiff, Nat.reduceLT, Nat.reduceEqDiff, Nat.reduceMul, Nat.reduceAdd, Nat.reduceBEq, List.length_cons, List.length_nil, String.reduceEq, hf, ftI_none, Mem.map_, mlook_enc, mval_enc, hz]
      refine cal_eq ((fail_sim cs 9 at_) B R rw_) ?_
      simp only [go_sem, true_or, or_true, Int.cast_ofNat_Int, not_true_eq_false, true_implies, forall_const, not_false_eq_true, List.size_toArray, Array.size_empty, and_self, ne_eq, not_false_eq_true, Nat.reduceEqDiff, Nat.mul_one, List.contains_nil, List.contains_cons, Bool.false_or, Bool.or_false, false_implies, implies_true, beq_self_eq_true, Nat.reduceBEq, Int.ofNat_le, Int.reduceToNat, Int.reduceLT, Int.reduceLE, Int.reduceEq, Nat.reduceLeDiff, Nat.reduceLT, Nat.reduceEqDiff, Nat.reduceMul, Nat.reduceAdd, Nat.reduceBEq, List.length_cons, List.length_nil, String.reduceEq]
      refine hQ .ret _ ?_; exact post_ret _ _ (.tup []) (by simp only [go_sem, true_or, or_true, Int.cast_ofNat_Int, not_true_eq_false, true_implies, forall_const, not_false_eq_true, List.size_toArray, Array.size_empty, and_self, ne_eq, not_false_eq_true, Nat.reduceEqDiff, Nat.mul_one, List.contains_nil, List.contains_cons, Bool.false_or, Bool.or_false, false_implies, implies_true, beq_self_eq_true, Nat.reduceBEq, Int.ofNat_le, Int.reduceToNat, Int.reduceLT, Int.reduceLE, Int.reduceEq, Nat.reduceLeDiff, Nat.reduceLT, Nat.reduceEqDiff, Nat.reduceMul, Nat.reduceAdd, Nat.reduceBEq, List.length_cons, List.length_nil, String.reduceEq]) rfl (DropW.ck0 B cs (cs.fail 9 at_) R rw_) ⟨rfl, by rw [hgo]⟩
    · obtain ⟨hu, hk⟩ := hok.absent hz
      by_cases hl : 16 ≤ cs.us.length
      · have hgo : cs.declare name kind at_ = cs.fail 15 at_ := by simp [CS.declare, hf, hz, hl]
        have hl' : (16 : Int) ≤ (cs.us.length : Int) := by omega
        refine TS.of [] fun Q hQ => ?_
        simp only [go_sem, true_or, or_true, Int.cast_ofNat_Int, not_true_eq_false, true_implies, forall_const, not_false_eq_true, List.size_toArray, Array.size_empty, and_self, ne_eq, not_false_eq_true, Nat.reduceEqDiff, Nat.mul_one, List.contains_nil, List.contains_cons, Bool.false_or, Bool.or_false, false_implies, implies_true, beq_self_eq_true, Nat.reduceBEq, Int.ofNat_le, Int.reduceToNat, Int.reduceLT, Int.reduceLE, Int.reduceEq, Nat.reduceLeDiff, Nat.reduceLT, Nat.reduceEqDiff, Nat.reduceMul, Nat.reduceAdd, Nat.reduceBEq, List.length_cons, List.length_nil, String.reduceEq, hf, ftI_none, Mem.map_, mlook_enc, mval_enc, hz, encM_size, hl']
        refine cal_eq ((fail_sim cs 15 at_) B R rw_) ?_
        simp only [go_sem, true_or, or_true, Int.cast_ofNat_Int, not_true_eq_false, true_implies, forall_const, not_false_eq_true, List.size_toArray, Array.size_empty, and_self, ne_eq, not_false_eq_true, Nat.reduceEqDiff, Nat.mul_one, List.contains_nil, List.contains_cons, Bool.false_or, Bool.or_false, false_implies, implies_true, beq_self_eq_true, Nat.reduceBEq, Int.ofNat_le, Int.reduceToNat, Int.reduceLT, Int.reduceLE, Int.reduceEq, Nat.reduceLeDiff, Nat.reduceLT, Nat.reduceEqDiff, Nat.reduceMul, Nat.reduceAdd, Nat.reduceBEq, List.length_cons, List.length_nil, String.reduceEq]
        refine hQ .ret _ ?_; exact post_ret _ _ (.tup []) (by simp only [go_sem, true_or, or_true, Int.cast_ofNat_Int, not_true_eq_false, true_implies, forall_const, not_false_eq_true, List.size_toArray, Array.size_empty, and_self, ne_eq, not_false_eq_true, Nat.reduceEqDiff, Nat.mul_one, List.contains_nil, List.contains_cons, Bool.false_or, Bool.or_false, false_implies, implies_true, beq_self_eq_true, Nat.reduceBEq, Int.ofNat_le, Int.reduceToNat, Int.reduceLT, Int.reduceLE, Int.reduceEq, Nat.reduceLeDiff, Nat.reduceLT, Nat.reduceEqDiff, Nat.reduceMul, Nat.reduceAdd, Nat.reduceBEq, List.length_cons, List.length_nil, String.reduceEq]) rfl (DropW.ck0 B cs (cs.fail 15 at_) R rw_) ⟨rfl, by rw [hgo]⟩
      · have hgo : cs.declare name kind at_ = { cs with us := cs.us ++ [(name, kind, cs.uc)], uc := cs.uc + 1, kn := cs.kn ++ [(name, kind, cs.kc)], kc := cs.kc + 1 } := by simp [CS.declare, hf, hz, hl]
        have hl' : ¬ (16 : Int) ≤ (cs.us.length : Int) := by omega
        have h1 := ment_enc (c := cs.uc) hu
        have h2 := born_enc (c := cs.uc) hu
        have h3 := estore_enc (s := name) (v := kind) hok.ub
        have g1 := ment_enc (c := cs.kc) hk
        have g2 := born_enc (c := cs.kc) hk
        have g3 := estore_enc (s := name) (v := kind) hok.kb
        refine TS.of [] fun Q hQ => ?_
        simp only [go_sem, true_or, or_true, Int.cast_ofNat_Int, not_true_eq_false, true_implies, forall_const, not_false_eq_true, List.size_toArray, Array.size_empty, and_self, ne_eq, not_false_eq_true, Nat.reduceEqDiff, Nat.mul_one, List.contains_nil, List.contains_cons, Bool.false_or, Bool.or_false, false_implies, implies_true, beq_self_eq_true, Nat.reduceBEq, Int.ofNat_le, Int.reduceToNat, Int.reduceLT, Int.reduceLE, Int.reduceEq, Nat.reduceLeDiff, Nat.reduceLT, Nat.reduceEqDiff, Nat.reduceMul, Nat.reduceAdd, Nat.reduceBEq, List.length_cons, List.length_nil, String.reduceEq, hf, ftI_none, Mem.map_, mlook_enc, mval_enc, hz, encM_size, hl']
        refine drn_of ⟨[], [], []⟩ [0, 1, 3, 7, 0, 0, 32, 96, 224, 0, 0, 0, 511, 4607, 13823, 30719, 63487, 131071] (by kernel_rfl) ?_
        simp only [go_sem, true_or, or_true, Int.cast_ofNat_Int, not_true_eq_false, true_implies, forall_const, not_false_eq_true, List.size_toArray, Array.size_empty, and_self, ne_eq, not_false_eq_true, Nat.reduceEqDiff, Nat.mul_one, List.contains_nil, List.contains_cons, Bool.false_or, Bool.or_false, false_implies, implies_true, beq_self_eq_true, Nat.reduceBEq, Int.ofNat_le, Int.reduceToNat, Int.reduceLT, Int.reduceLE, Int.reduceEq, Nat.reduceLeDiff, Nat.reduceLT, Nat.reduceEqDiff, Nat.reduceMul, Nat.reduceAdd, Nat.reduceBEq, List.length_cons, List.length_nil, String.reduceEq, hf, ftI_none, Mem.map_, mlook_enc, mval_enc, h1, h2, h3.1, h3.2, g1, g2, g3.1, g3.2]
        refine hQ .normal _ ?_; exact post_end _ _ (.tup []) (by simp only [go_sem, true_or, or_true, Int.cast_ofNat_Int, not_true_eq_false, true_implies, forall_const, not_false_eq_true, List.size_toArray, Array.size_empty, and_self, ne_eq, not_false_eq_true, Nat.reduceEqDiff, Nat.mul_one, List.contains_nil, List.contains_cons, Bool.false_or, Bool.or_false, false_implies, implies_true, beq_self_eq_true, Nat.reduceBEq, Int.ofNat_le, Int.reduceToNat, Int.reduceLT, Int.reduceLE, Int.reduceEq, Nat.reduceLeDiff, Nat.reduceLT, Nat.reduceEqDiff, Nat.reduceMul, Nat.reduceAdd, Nat.reduceBEq, List.length_cons, List.length_nil, String.reduceEq]) rfl (DropW.ck0 B cs ({ cs with us := cs.us ++ [(name, kind, cs.uc)], uc := cs.uc + 1, kn := cs.kn ++ [(name, kind, cs.kc)], kc := cs.kc + 1 }) R rw_) ⟨rfl, by rw [hgo]⟩
end Go.Proofs.Ytphjldhdnmoolaa.A
