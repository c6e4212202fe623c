/- For every input CheckTypes answers true: which operators take which types. -/
import Derived.Test.YtphjldhdnmoolaaJBase5
import Derived.Test.YtphjldhdnmoolaaRows
set_option linter.unusedVariables false
set_option linter.unusedSimpArgs false
/- The walks of some functions over the abstract machine. -/
namespace Go.Proofs.Ytphjldhdnmoolaa.A
open Go
/-! closed texts, quickly; CheckScopes -/
def parseQ (s : Bytes) : Def × Int × Int :=
  let t := quick s
  if t.2.1 ≠ 0 then (D0, t.2.1, t.2.2)
  else let d := defP t.1
    if fixP t.1 d.2 < 0 then (D0, 8, (tk t.1 (-1 - fixP t.1 d.2)).p) else (d.1, 0, 0)
theorem parse_Q (s : Bytes) : parse s = parseQ s := by unfold parse parseQ; rw [tokens_quick]
def checkedQ (s : Bytes) : Info × Int × Int × Bool := if (parseQ s).2.1 = 0 then ((check (parseQ s).1).1, (faultP (check (parseQ s).1).2).1, (faultP (check (parseQ s).1).2).2, true) else (Info0, 0, 0, false)
theorem checked_Q (s : Bytes) : checkedP s = checkedQ s := by unfold checkedP checkedQ; rw [parse_Q]
theorem umodc (p : Int) (c : Nat) (hc : 0 < c) (hc' : c < 1000) : ∃ k : Nat, k < c ∧ IntKind.i64.wrap ((IntKind.u64.wrap p).tmod c) = (k : Int) := by
  have h0 : 0 ≤ IntKind.u64.wrap p := by simp only [IntKind.wrap, IntKind.bits, IntKind.signed]; simp; omega
  have h1 := Int.emod_nonneg (IntKind.u64.wrap p) (b := (c : Int)) (by omega)
  have h2 := Int.emod_lt_of_pos (IntKind.u64.wrap p) (b := (c : Int)) (by omega)
  refine ⟨((IntKind.u64.wrap p).tmod c).toNat, ?_, ?_⟩
  · rw [Int.tmod_eq_emod_of_nonneg h0]; omega
  · rw [Int.tmod_eq_emod_of_nonneg h0, wrap_small (by omega) (by omega)]; omega
theorem scope_mod (p : Int) : ∃ k : Nat, k < 6 ∧ IntKind.i64.wrap ((IntKind.u64.wrap p).tmod 6) = (k : Int) := umodc p 6 (by decide) (by decide)
abbrev scT (a b c d e f : Bytes) : Bytes := (⟨#[111, 112, 32, 111, 40, 41, 32, 123, 32]⟩ : Bytes) ++ a ++ ⟨#[105, 102, 32, 116, 114, 117, 101, 32, 123, 32]⟩ ++ b ++ ⟨#[108, 101, 116, 32, 119, 32, 61, 32, 49, 59, 32]⟩ ++ c ++ ⟨#[102, 111, 114, 32, 105, 32, 105, 110, 32, 48, 46, 46, 50, 32, 123, 32]⟩ ++ d ++ ⟨#[125, 32, 125, 32, 101, 108, 115, 101, 32, 123, 32]⟩ ++ e ++ ⟨#[125, 32]⟩ ++ f ++ ⟨#[125]⟩
abbrev scU : Bytes := ⟨#[91, 119, 93, 32, 61, 32, 49, 59, 32]⟩
abbrev scE : Bytes := ⟨#[]⟩
set_option maxRecDepth 100000
theorem sc0 : checkedP (scT scU scE scE scE scE scE) = (Info0, 9, 10, true) ∧ (scT scU scE scE scE scE scE)[10]? = some 119 := ⟨by rw [checked_Q]; kernel_rfl, by kernel_rfl⟩
theorem sc1 : checkedP (scT scE scU scE scE scE scE) = (Info0, 9, 20, true) ∧ (scT scE scU scE scE scE scE)[20]? = some 119 := ⟨by rw [checked_Q]; kernel_rfl, by kernel_rfl⟩
theorem sc2 : (checkedP (scT scE scE scU scE scE scE)).2.1 = 0 ∧ (checkedP (scT scE scE scU scE scE scE)).1.mode = 3 ∧ (checkedP (scT scE scE scU scE scE scE)).1.names = 2 ∧ (checkedP (scT scE scE scU scE scE scE)).2.2.2 = true := by rw [checked_Q]; exact ⟨by kernel_rfl, by kernel_rfl, by kernel_rfl, by kernel_rfl⟩
theorem sc3 : (checkedP (scT scE scE scE scU scE scE)).2.1 = 0 ∧ (checkedP (scT scE scE scE scU scE scE)).1.mode = 3 ∧ (checkedP (scT scE scE scE scU scE scE)).1.names = 2 ∧ (checkedP (scT scE scE scE scU scE scE)).2.2.2 = true := by rw [checked_Q]; exact ⟨by kernel_rfl, by kernel_rfl, by kernel_rfl, by kernel_rfl⟩
theorem sc4 : checkedP (scT scE scE scE scE scU scE) = (Info0, 9, 58, true) ∧ (scT scE scE scE scE scU scE)[58]? = some 119 := ⟨by rw [checked_Q]; kernel_rfl, by kernel_rfl⟩
theorem sc5 : checkedP (scT scE scE scE scE scE scU) = (Info0, 9, 60, true) ∧ (scT scE scE scE scE scE scU)[60]? = some 119 := ⟨by rw [checked_Q]; kernel_rfl, by kernel_rfl⟩
set_option maxRecDepth 100000 in
set_option maxHeartbeats 4000000 in
theorem scopes_law (m : Mem) (p : Int) : Sim 10 [ii p] m (fun r m' => r = bb true ∧ m' = m) := by
  obtain ⟨k, hk, hkw⟩ := scope_mod p
  refine Sim.ofS 78 [.tmp 2] Try.func10 rfl rfl rfl (by simp) fun wr => ?_
  simp only [go_sem, true_or, or_true, Int.cast_ofNat_Int, not_true_eq_false, true_implies, forall_const, not_false_eq_true, List.size_toArray, Array.size_empty, and_self, ne_eq, not_false_eq_true, Nat.reduceEqDiff, Nat.mul_one, List.contains_nil, List.contains_cons, Bool.false_or, Bool.or_false, false_implies, implies_true, beq_self_eq_true, Nat.reduceBEq, Int.ofNat_le, Int.reduceToNat, Int.reduceLT, Int.reduceLE, Int.reduceEq, Nat.reduceLeDiff, Nat.reduceLT, Nat.reduceEqDiff, Nat.reduceMul, Nat.reduceAdd, Nat.reduceBEq, List.length_cons, List.length_nil, String.reduceEq]
  refine TS.seq (TS.of [] fun Q hQ => ?_)
  simp only [go_sem, true_or, or_true, Int.cast_ofNat_Int, not_true_eq_false, true_implies, forall_const, not_false_eq_true, List.size_toArray, Array.size_empty, and_self, ne_eq, not_false_eq_true, Nat.reduceEqDiff, Nat.mul_one, List.contains_nil, List.contains_cons, Bool.false_or, Bool.or_false, false_implies, implies_true, beq_self_eq_true, Nat.reduceBEq, Int.ofNat_le, Int.reduceToNat, Int.reduceLT, Int.reduceLE, Int.reduceEq, Nat.reduceLeDiff, Nat.reduceLT, Nat.reduceEqDiff, Nat.reduceMul, Nat.reduceAdd, Nat.reduceBEq, List.length_cons, List.length_nil, String.reduceEq]
  refine hQ .normal _ ?_; clear hQ Q
  refine TS.seq (TS.of [] fun Q hQ => ?_)
  simp only [go_sem, true_or, or_true, Int.cast_ofNat_Int, not_true_eq_false, true_implies, forall_const, not_false_eq_true, List.size_toArray, Array.size_empty, and_self, ne_eq, not_false_eq_true, Nat.reduceEqDiff, Nat.mul_one, List.contains_nil, List.contains_cons, Bool.false_or, Bool.or_false, false_implies, implies_true, beq_self_eq_true, Nat.reduceBEq, Int.ofNat_le, Int.reduceToNat, Int.reduceLT, Int.reduceLE, Int.reduceEq, Nat.reduceLeDiff, Nat.reduceLT, Nat.reduceEqDiff, Nat.reduceMul, Nat.reduceAdd, Nat.reduceBEq, List.length_cons, List.length_nil, String.reduceEq]
  refine cal_eq (alive8_sim _) ?_
  simp only [go_sem, true_or, or_true, Int.cast_ofNat_Int, not_true_eq_false, true_implies, forall_const, not_false_eq_true, List.size_toArray, Array.size_empty, and_self, ne_eq, not_false_eq_true, Nat.reduceEqDiff, Nat.mul_one, List.contains_nil, List.contains_cons, Bool.false_or, Bool.or_false, false_implies, implies_true, beq_self_eq_true, Nat.reduceBEq, Int.ofNat_le, Int.reduceToNat, Int.reduceLT, Int.reduceLE, Int.reduceEq, Nat.reduceLeDiff, Nat.reduceLT, Nat.reduceEqDiff, Nat.reduceMul, Nat.reduceAdd, Nat.reduceBEq, List.length_cons, List.length_nil, String.reduceEq]
  refine hQ .normal _ ?_; clear hQ Q
  refine TS.seq (TS.of [] fun Q hQ => ?_)
  simp only [go_sem, true_or, or_true, Int.cast_ofNat_Int, not_true_eq_false, true_implies, forall_const, not_false_eq_true, List.size_toArray, Array.size_empty, and_self, ne_eq, not_false_eq_true, Nat.reduceEqDiff, Nat.mul_one, List.contains_nil, List.contains_cons, Bool.false_or, Bool.or_false, false_implies, implies_true, beq_self_eq_true, Nat.reduceBEq, Int.ofNat_le, Int.reduceToNat, Int.reduceLT, Int.reduceLE, Int.reduceEq, Nat.reduceLeDiff, Nat.reduceLT, Nat.reduceEqDiff, Nat.reduceMul, Nat.reduceAdd, Nat.reduceBEq, List.length_cons, List.length_nil, String.reduceEq]
  refine hQ .normal _ ?_; clear hQ Q
  have hk6 : k = 0 ∨ k = 1 ∨ k = 2 ∨ k = 3 ∨ k = 4 ∨ k = 5 := by omega
  rcases hk6 with rfl | rfl | rfl | rfl | rfl | rfl
  all_goals refine TS.of [] fun Q hQ => ?_
  all_goals (simp only [go_sem, true_or, or_true, Int.cast_ofNat_Int, not_true_eq_false, true_implies, forall_const, not_false_eq_true, List.size_toArray, Array.size_empty, and_self, ne_eq, not_false_eq_true, Nat.reduceEqDiff, Nat.mul_one, List.contains_nil, List.contains_cons, Bool.false_or, Bool.or_false, false_implies, implies_true, beq_self_eq_true, Nat.reduceBEq, Int.ofNat_le, Int.reduceToNat, Int.reduceLT, Int.reduceLE, Int.reduceEq, Nat.reduceLeDiff, Nat.reduceLT, Nat.reduceEqDiff, Nat.reduceMul, Nat.reduceAdd, Nat.reduceBEq, List.length_cons, List.length_nil, String.reduceEq, hkw, show ¬ ((6 : Int) = 0) by decide])
  case' inr.inr.inl => obtain ⟨q1, q2, q3, q4⟩ := sc2
  case' inr.inr.inr.inl => obtain ⟨q1, q2, q3, q4⟩ := sc3
  case' inl =>
    refine cal_eq (checked_sim _ (scT scU scE scE scE scE scE) (by decide) parse_ok) ?_
    rw [sc0.1]
    have hix := sc0.2
  case' inr.inl =>
    refine cal_eq (checked_sim _ (scT scE scU scE scE scE scE) (by decide) parse_ok) ?_
    rw [sc1.1]
    have hix := sc1.2
  case' inr.inr.inl =>
    refine cal_eq (checked_sim _ (scT scE scE scU scE scE scE) (by decide) parse_ok) ?_
    generalize checkedP _ = X at q1 q2 q3 q4
  case' inr.inr.inr.inl =>
    refine cal_eq (checked_sim _ (scT scE scE scE scU scE scE) (by decide) parse_ok) ?_
    generalize checkedP _ = X at q1 q2 q3 q4
  case' inr.inr.inr.inr.inl =>
    refine cal_eq (checked_sim _ (scT scE scE scE scE scU scE) (by decide) parse_ok) ?_
    rw [sc4.1]
    have hix := sc4.2
  case' inr.inr.inr.inr.inr =>
    refine cal_eq (checked_sim _ (scT scE scE scE scE scE scU) (by decide) parse_ok) ?_
    rw [sc5.1]
    have hix := sc5.2
  all_goals first | (simp only [go_sem, true_or, or_true, Int.cast_ofNat_Int, not_true_eq_false, true_implies, forall_const, not_false_eq_true, List.size_toArray, Array.size_empty, and_self, ne_eq, not_false_eq_true, Nat.reduceEqDiff, Nat.mul_one, List.contains_nil, List.contains_cons, Bool.false_or, Bool.or_false, false_implies, implies_true, beq_self_eq_true, Nat.reduceBEq, Int.ofNat_le, Int.reduceToNat, Int.reduceLT, Int.reduceLE, Int.reduceEq, Nat.reduceLeDiff, Nat.reduceLT, Nat.reduceEqDiff, Nat.reduceMul, Nat.reduceAdd, Nat.reduceBEq, List.length_cons, List.length_nil, String.reduceEq, q1, q2, q3, q4]) | (simp only [go_sem, true_or, or_true, Int.cast_ofNat_Int, not_true_eq_false, true_implies, forall_const, not_false_eq_true, List.size_toArray, Array.size_empty, and_self, ne_eq, not_false_eq_true, Nat.reduceEqDiff, Nat.mul_one, List.contains_nil, List.contains_cons, Bool.false_or, Bool.or_false, false_implies, implies_true, beq_self_eq_true, Nat.reduceBEq, Int.ofNat_le, Int.reduceToNat, Int.reduceLT, Int.reduceLE, Int.reduceEq, Nat.reduceLeDiff, Nat.reduceLT, Nat.reduceEqDiff, Nat.reduceMul, Nat.reduceAdd, Nat.reduceBEq, List.length_cons, List.length_nil, String.reduceEq, hix])
  all_goals (refine hQ .ret _ ?_; clear hQ Q; refine post_ret _ _ (bb true) ?_ rfl (DropW.tail0 _ rfl) ⟨rfl, rfl⟩)
  all_goals simp only [go_sem, true_or, or_true, Int.cast_ofNat_Int, not_true_eq_false, true_implies, forall_const, not_false_eq_true, List.size_toArray, Array.size_empty, and_self, ne_eq, not_false_eq_true, Nat.reduceEqDiff, Nat.mul_one, List.contains_nil, List.contains_cons, Bool.false_or, Bool.or_false, false_implies, implies_true, beq_self_eq_true, Nat.reduceBEq, Int.ofNat_le, Int.reduceToNat, Int.reduceLT, Int.reduceLE, Int.reduceEq, Nat.reduceLeDiff, Nat.reduceLT, Nat.reduceEqDiff, Nat.reduceMul, Nat.reduceAdd, Nat.reduceBEq, List.length_cons, List.length_nil, String.reduceEq]
  all_goals rfl
end Go.Proofs.Ytphjldhdnmoolaa.A
/- The walks of some functions over the abstract machine. -/
namespace Go.Proofs.Ytphjldhdnmoolaa.A
open Go
/-! CheckTypes -/
def wd (b : Bool) : Bytes := if b then ⟨#[116, 114, 117, 101]⟩ else ⟨#[49]⟩
set_option maxRecDepth 100000 in
set_option maxHeartbeats 4000000 in
theorem wd_sim (m : Mem) (b : Bool) : Sim 38 [bb b] m (fun r m' => r = ss (wd b) ∧ m' = m) := by
  refine Sim.ofS 4 [.tmp 2] Try.func38 rfl rfl rfl (by simp) fun wr => ?_
  simp only [go_sem, true_or, or_true, Int.cast_ofNat_Int, not_true_eq_false, true_implies, forall_const, not_false_eq_true, List.size_toArray, Array.size_empty, and_self, ne_eq, not_false_eq_true, Nat.reduceEqDiff, Nat.mul_one, List.contains_nil, List.contains_cons, Bool.false_or, Bool.or_false, false_implies, implies_true, beq_self_eq_true, Nat.reduceBEq, Int.ofNat_le, Int.reduceToNat, Int.reduceLT, Int.reduceLE, Int.reduceEq, Nat.reduceLeDiff, Nat.reduceLT, Nat.reduceEqDiff, Nat.reduceMul, Nat.reduceAdd, Nat.reduceBEq, List.length_cons, List.length_nil, String.reduceEq]
  cases b
  all_goals refine TS.of [] fun Q hQ => ?_
  all_goals simp only [go_sem, true_or, or_true, Int.cast_ofNat_Int, not_true_eq_false, true_implies, forall_const, not_false_eq_true, List.size_toArray, Array.size_empty, and_self, ne_eq, not_false_eq_true, Nat.reduceEqDiff, Nat.mul_one, List.contains_nil, List.contains_cons, Bool.false_or, Bool.or_false, false_implies, implies_true, beq_self_eq_true, Nat.reduceBEq, Int.ofNat_le, Int.reduceToNat, Int.reduceLT, Int.reduceLE, Int.reduceEq, Nat.reduceLeDiff, Nat.reduceLT, Nat.reduceEqDiff, Nat.reduceMul, Nat.reduceAdd, Nat.reduceBEq, List.length_cons, List.length_nil, String.reduceEq]
  all_goals refine hQ .ret _ ?_; exact post_ret _ _ _ rfl rfl (DropW.refl _) ⟨rfl, rfl⟩
def opT : Nat → Bytes
  | 0 => ⟨#[43]⟩
  | 1 => ⟨#[45]⟩
  | 2 => ⟨#[42]⟩
  | 3 => ⟨#[47]⟩
  | 4 => ⟨#[37]⟩
  | 5 => ⟨#[60]⟩
  | 6 => ⟨#[60, 61]⟩
  | 7 => ⟨#[62]⟩
  | 8 => ⟨#[62, 61]⟩
  | 9 => ⟨#[61, 61]⟩
  | 10 => ⟨#[33, 61]⟩
  | 11 => ⟨#[38, 38]⟩
  | 12 => ⟨#[124, 124]⟩
  | _ => ⟨#[]⟩
def tyA : Bytes := ⟨#[111, 112, 32, 111, 40, 41, 32, 123, 32, 108, 101, 116, 32, 97, 32, 61, 32]⟩
def tyB : Bytes := ⟨#[59, 32, 103, 105, 118, 101, 32, 97, 59, 32, 125]⟩
def tyC : Bytes := ⟨#[59, 32, 110, 101, 101, 100, 50, 32, 125]⟩
def tyS (k : Nat) (l r : Bool) : Bytes := tyA ++ wd l ++ opT k ++ wd r ++ tyB
def tyN (k : Nat) (l r : Bool) : Bytes := tyA ++ wd l ++ opT k ++ wd r ++ tyC
def tpG (k : Nat) (l r : Bool) : Bool := if 11 ≤ k then l && r else if 9 ≤ k then decide (l = r) else !l && !r
def tpOK (k : Nat) (l r : Bool) : Bool :=
  let x := checkedQ (tyS k l r)
  x.2.2.2 && (!(checkedQ (tyN k l r)).2.2.2 && (if tpG k l r && decide (k < 5) then decide (x.2.1 = 0) && decide (x.1.mode = 1) else decide (x.2.1 = 10)))
set_option maxRecDepth 100000 in
theorem ty13 : (List.range 13).all (fun k => tpOK k false false && (tpOK k false true && (tpOK k true false && tpOK k true true))) = true := by kernel_rfl
theorem type_mod (p : Int) : ∃ k : Nat, k < 13 ∧ IntKind.i64.wrap ((IntKind.u64.wrap p).tmod 13) = (k : Int) := umodc p 13 (by decide) (by decide)
theorem tp_at {k : Nat} (h : k < 13) (l r : Bool) : tpOK k l r = true := by
  have h1 := List.all_eq_true.1 ty13 k (List.mem_range.2 h)
  simp only [Bool.and_eq_true] at h1
  cases l <;> cases r
  · exact h1.1
  · exact h1.2.1
  · exact h1.2.2.1
  · exact h1.2.2.2
theorem op_sz {k : Nat} (h : k < 13) : (opT k).size ≤ 2 := by
  have h1 : (List.range 13).all (fun k => decide ((opT k).size ≤ 2)) = true := by kernel_rfl
  simpa using List.all_eq_true.1 h1 k (List.mem_range.2 h)
theorem wd_sz (b : Bool) : (wd b).size ≤ 4 := by cases b <;> decide
abbrev opsI : List IV := [ss (opT 0), ss (opT 1), ss (opT 2), ss (opT 3), ss (opT 4), ss (opT 5), ss (opT 6), ss (opT 7), ss (opT 8), ss (opT 9), ss (opT 10), ss (opT 11), ss (opT 12)]
theorem ops_at {k : Nat} (h : k < 13) : opsI.drop k = ss (opT k) :: opsI.drop (k + 1) := by
  have hk : k = 0 ∨ k = 1 ∨ k = 2 ∨ k = 3 ∨ k = 4 ∨ k = 5 ∨ k = 6 ∨ k = 7 ∨ k = 8 ∨ k = 9 ∨ k = 10 ∨ k = 11 ∨ k = 12 := by omega
  rcases hk with rfl | rfl | rfl | rfl | rfl | rfl | rfl | rfl | rfl | rfl | rfl | rfl | rfl <;> rfl
theorem tp_good (k : Nat) (l r : Bool) : tpG k l r = (if (11 : Int) ≤ k then (if l then r else false) else if (9 : Int) ≤ k then decide (l = r) else if !l then !r else false) := by
  have e1 : ((11 : Int) ≤ k) ↔ 11 ≤ k := by omega
  have e2 : ((9 : Int) ≤ k) ↔ 9 ≤ k := by omega
  unfold tpG
  simp only [e1, e2]
  cases l <;> cases r <;> simp
set_option maxRecDepth 100000 in
set_option maxHeartbeats 4000000 in
theorem types_law (m : Mem) (p : Int) (l r : Bool) : Sim 9 [ii p, bb l, bb r] m (fun x m' => x = bb true ∧ m' = m) := by
  obtain ⟨k, hk, hkw⟩ := type_mod p
  have htp := tp_at hk l r
  have hop := op_sz hk
  have hwl := wd_sz l
  have hwr := wd_sz r
  have hat := ops_at hk
  refine Sim.ofS 104 [.tmp 6] Try.func9 rfl rfl rfl (by simp) fun wr => ?_
  simp only [go_sem, true_or, or_true, Int.cast_ofNat_Int, not_true_eq_false, true_implies, forall_const, not_false_eq_true, List.size_toArray, Array.size_empty, and_self, ne_eq, not_false_eq_true, Nat.reduceEqDiff, Nat.mul_one, List.contains_nil, List.contains_cons, Bool.false_or, Bool.or_false, false_implies, implies_true, beq_self_eq_true, Nat.reduceBEq, Int.ofNat_le, Int.reduceToNat, Int.reduceLT, Int.reduceLE, Int.reduceEq, Nat.reduceLeDiff, Nat.reduceLT, Nat.reduceEqDiff, Nat.reduceMul, Nat.reduceAdd, Nat.reduceBEq, List.length_cons, List.length_nil, String.reduceEq]
  refine TS.seq (TS.of [] fun Q hQ => ?_)
  simp only [go_sem, true_or, or_true, Int.cast_ofNat_Int, not_true_eq_false, true_implies, forall_const, not_false_eq_true, List.size_toArray, Array.size_empty, and_self, ne_eq, not_false_eq_true, Nat.reduceEqDiff, Nat.mul_one, List.contains_nil, List.contains_cons, Bool.false_or, Bool.or_false, false_implies, implies_true, beq_self_eq_true, Nat.reduceBEq, Int.ofNat_le, Int.reduceToNat, Int.reduceLT, Int.reduceLE, Int.reduceEq, Nat.reduceLeDiff, Nat.reduceLT, Nat.reduceEqDiff, Nat.reduceMul, Nat.reduceAdd, Nat.reduceBEq, List.length_cons, List.length_nil, String.reduceEq]
  refine hQ .normal _ ?_; clear hQ Q
  refine TS.seq (TS.of [] fun Q hQ => ?_)
  simp only [go_sem, true_or, or_true, Int.cast_ofNat_Int, not_true_eq_false, true_implies, forall_const, not_false_eq_true, List.size_toArray, Array.size_empty, and_self, ne_eq, not_false_eq_true, Nat.reduceEqDiff, Nat.mul_one, List.contains_nil, List.contains_cons, Bool.false_or, Bool.or_false, false_implies, implies_true, beq_self_eq_true, Nat.reduceBEq, Int.ofNat_le, Int.reduceToNat, Int.reduceLT, Int.reduceLE, Int.reduceEq, Nat.reduceLeDiff, Nat.reduceLT, Nat.reduceEqDiff, Nat.reduceMul, Nat.reduceAdd, Nat.reduceBEq, List.length_cons, List.length_nil, String.reduceEq]
  refine cal_eq (alive8_sim _) ?_
  simp only [go_sem, true_or, or_true, Int.cast_ofNat_Int, not_true_eq_false, true_implies, forall_const, not_false_eq_true, List.size_toArray, Array.size_empty, and_self, ne_eq, not_false_eq_true, Nat.reduceEqDiff, Nat.mul_one, List.contains_nil, List.contains_cons, Bool.false_or, Bool.or_false, false_implies, implies_true, beq_self_eq_true, Nat.reduceBEq, Int.ofNat_le, Int.reduceToNat, Int.reduceLT, Int.reduceLE, Int.reduceEq, Nat.reduceLeDiff, Nat.reduceLT, Nat.reduceEqDiff, Nat.reduceMul, Nat.reduceAdd, Nat.reduceBEq, List.length_cons, List.length_nil, String.reduceEq]
  refine hQ .normal _ ?_; clear hQ Q
  refine TS.seq (TS.of [] fun Q hQ => ?_)
  simp only [go_sem, true_or, or_true, Int.cast_ofNat_Int, not_true_eq_false, true_implies, forall_const, not_false_eq_true, List.size_toArray, Array.size_empty, and_self, ne_eq, not_false_eq_true, Nat.reduceEqDiff, Nat.mul_one, List.contains_nil, List.contains_cons, Bool.false_or, Bool.or_false, false_implies, implies_true, beq_self_eq_true, Nat.reduceBEq, Int.ofNat_le, Int.reduceToNat, Int.reduceLT, Int.reduceLE, Int.reduceEq, Nat.reduceLeDiff, Nat.reduceLT, Nat.reduceEqDiff, Nat.reduceMul, Nat.reduceAdd, Nat.reduceBEq, List.length_cons, List.length_nil, String.reduceEq]
  refine hQ .normal _ ?_; clear hQ Q
  refine TS.seq (TS.of [] fun Q hQ => ?_)
  simp only [go_sem, true_or, or_true, Int.cast_ofNat_Int, not_true_eq_false, true_implies, forall_const, not_false_eq_true, List.size_toArray, Array.size_empty, and_self, ne_eq, not_false_eq_true, Nat.reduceEqDiff, Nat.mul_one, List.contains_nil, List.contains_cons, Bool.false_or, Bool.or_false, false_implies, implies_true, beq_self_eq_true, Nat.reduceBEq, Int.ofNat_le, Int.reduceToNat, Int.reduceLT, Int.reduceLE, Int.reduceEq, Nat.reduceLeDiff, Nat.reduceLT, Nat.reduceEqDiff, Nat.reduceMul, Nat.reduceAdd, Nat.reduceBEq, List.length_cons, List.length_nil, String.reduceEq]
  refine hQ .normal _ ?_; clear hQ Q
  refine TS.seq (TS.of [] fun Q hQ => ?_)
  simp only [go_sem, true_or, or_true, Int.cast_ofNat_Int, not_true_eq_false, true_implies, forall_const, not_false_eq_true, List.size_toArray, Array.size_empty, and_self, ne_eq, not_false_eq_true, Nat.reduceEqDiff, Nat.mul_one, List.contains_nil, List.contains_cons, Bool.false_or, Bool.or_false, false_implies, implies_true, beq_self_eq_true, Nat.reduceBEq, Int.ofNat_le, Int.reduceToNat, Int.reduceLT, Int.reduceLE, Int.reduceEq, Nat.reduceLeDiff, Nat.reduceLT, Nat.reduceEqDiff, Nat.reduceMul, Nat.reduceAdd, Nat.reduceBEq, List.length_cons, List.length_nil, String.reduceEq, hkw, show ¬ ((13 : Int) = 0) by decide]
  refine hQ .normal _ ?_; clear hQ Q
  refine TS.seq (TS.mono (Q := fun e s => e = .normal ∧ (s.t 1 = bb l ∧ s.t 2 = bb r ∧ s.t 7 = .ptr m.objs.length 0 ∧ s.t 8 = ii k ∧ s.t 9 = .v (.func (.func 38) #[] #[]) ∧ s.t 10 = bb (!l && !r)) ∧ s.m = ⟨m.objs ++ [.cells opsI], m.rows⟩) ?_ ?_)
  · cases l
    all_goals refine TS.of [] fun Q hQ => ?_
    all_goals simp only [go_sem, true_or, or_true, Int.cast_ofNat_Int, not_true_eq_false, true_implies, forall_const, not_false_eq_true, List.size_toArray, Array.size_empty, and_self, ne_eq, not_false_eq_true, Nat.reduceEqDiff, Nat.mul_one, List.contains_nil, List.contains_cons, Bool.false_or, Bool.or_false, false_implies, implies_true, beq_self_eq_true, Nat.reduceBEq, Int.ofNat_le, Int.reduceToNat, Int.reduceLT, Int.reduceLE, Int.reduceEq, Nat.reduceLeDiff, Nat.reduceLT, Nat.reduceEqDiff, Nat.reduceMul, Nat.reduceAdd, Nat.reduceBEq, List.length_cons, List.length_nil, String.reduceEq]
    all_goals (refine hQ .normal _ ?_; refine ⟨rfl, ?_, rfl⟩; simp [upd_apply, argsT])
  rintro e s1 ⟨rfl, ⟨i1, i2, i7, i8, i9, i10⟩, hm1⟩
  refine TS.seq (TS.mono (Q := fun e s => e = .normal ∧ (s.t 1 = bb l ∧ s.t 2 = bb r ∧ s.t 7 = .ptr m.objs.length 0 ∧ s.t 8 = ii k ∧ s.t 9 = .v (.func (.func 38) #[] #[]) ∧ s.t 10 = bb (tpG k l r)) ∧ s.m = ⟨m.objs ++ [.cells opsI], m.rows⟩) ?_ ?_)
  · by_cases g1 : (11 : Int) ≤ k
    · cases l
      all_goals refine TS.of [] fun Q hQ => ?_
      all_goals (simp only [go_sem, true_or, or_true, Int.cast_ofNat_Int, not_true_eq_false, true_implies, forall_const, not_false_eq_true, List.size_toArray, Array.size_empty, and_self, ne_eq, not_false_eq_true, Nat.reduceEqDiff, Nat.mul_one, List.contains_nil, List.contains_cons, Bool.false_or, Bool.or_false, false_implies, implies_true, beq_self_eq_true, Nat.reduceBEq, Int.ofNat_le, Int.reduceToNat, Int.reduceLT, Int.reduceLE, Int.reduceEq, Nat.reduceLeDiff, Nat.reduceLT, Nat.reduceEqDiff, Nat.reduceMul, Nat.reduceAdd, Nat.reduceBEq, List.length_cons, List.length_nil, String.reduceEq, i1, i2, i7, i8, i9, i10, hm1, g1])
      all_goals (refine hQ .normal _ ?_; refine ⟨rfl, ?_, rfl⟩; rw [tp_good, if_pos g1]; simp [upd_apply, i1, i2, i7, i8, i9])
    · by_cases g2 : (9 : Int) ≤ k
      · refine TS.of [] fun Q hQ => ?_
        simp only [go_sem, true_or, or_true, Int.cast_ofNat_Int, not_true_eq_false, true_implies, forall_const, not_false_eq_true, List.size_toArray, Array.size_empty, and_self, ne_eq, not_false_eq_true, Nat.reduceEqDiff, Nat.mul_one, List.contains_nil, List.contains_cons, Bool.false_or, Bool.or_false, false_implies, implies_true, beq_self_eq_true, Nat.reduceBEq, Int.ofNat_le, Int.reduceToNat, Int.reduceLT, Int.reduceLE, Int.reduceEq, Nat.reduceLeDiff, Nat.reduceLT, Nat.reduceEqDiff, Nat.reduceMul, Nat.reduceAdd, Nat.reduceBEq, List.length_cons, List.length_nil, String.reduceEq, i1, i2, i7, i8, i9, i10, hm1, g1, g2]
        refine hQ .normal _ ?_; refine ⟨rfl, ?_, rfl⟩; rw [tp_good, if_neg g1, if_pos g2]; simp [upd_apply, i1, i2, i7, i8, i9]
      · refine TS.of [] fun Q hQ => ?_
        simp only [go_sem, true_or, or_true, Int.cast_ofNat_Int, not_true_eq_false, true_implies, forall_const, not_false_eq_true, List.size_toArray, Array.size_empty, and_self, ne_eq, not_false_eq_true, Nat.reduceEqDiff, Nat.mul_one, List.contains_nil, List.contains_cons, Bool.false_or, Bool.or_false, false_implies, implies_true, beq_self_eq_true, Nat.reduceBEq, Int.ofNat_le, Int.reduceToNat, Int.reduceLT, Int.reduceLE, Int.reduceEq, Nat.reduceLeDiff, Nat.reduceLT, Nat.reduceEqDiff, Nat.reduceMul, Nat.reduceAdd, Nat.reduceBEq, List.length_cons, List.length_nil, String.reduceEq, i1, i2, i7, i8, i9, i10, hm1, g1, g2]
        refine hQ .normal _ ?_; refine ⟨rfl, ?_, rfl⟩; rw [tp_good, if_neg g1, if_neg g2]; simp [upd_apply, i1, i2, i7, i8, i9, i10]; try (cases l <;> simp)
  clear i1 i2 i7 i8 i9 i10 hm1 s1
  rintro e s2 ⟨rfl, ⟨i1, i2, i7, i8, i9, i10⟩, hm2⟩
  have z1 : 17 + (wd l).size ≤ 9223372036854775807 := by omega
  have z2 : 17 + (wd l).size + (opT k).size ≤ 9223372036854775807 := by omega
  have z3 : 17 + (wd l).size + (opT k).size + (wd r).size ≤ 9223372036854775807 := by omega
  have z4 : 17 + (wd l).size + (opT k).size + (wd r).size + 11 ≤ 9223372036854775807 := by omega
  have z5 : 17 + (wd l).size + (opT k).size + (wd r).size + 9 ≤ 9223372036854775807 := by omega
  have hk13 : (k : Int) < 13 := by omega
  refine TS.seq (TS.of [] fun Q hQ => ?_)
  simp only [go_sem, true_or, or_true, Int.cast_ofNat_Int, not_true_eq_false, true_implies, forall_const, not_false_eq_true, List.size_toArray, Array.size_empty, and_self, ne_eq, not_false_eq_true, Nat.reduceEqDiff, Nat.mul_one, List.contains_nil, List.contains_cons, Bool.false_or, Bool.or_false, false_implies, implies_true, beq_self_eq_true, Nat.reduceBEq, Int.ofNat_le, Int.reduceToNat, Int.reduceLT, Int.reduceLE, Int.reduceEq, Nat.reduceLeDiff, Nat.reduceLT, Nat.reduceEqDiff, Nat.reduceMul, Nat.reduceAdd, Nat.reduceBEq, List.length_cons, List.length_nil, String.reduceEq, i1, i2, i7, i8, i9, i10, hm2]
  refine drn_of ⟨[], [47, 55], []⟩ [0, 0, 3, 7, 0, 16, 48, 127, 0, 0, 775, 2047, 4095, 8191] (by kernel_rfl) ?_
  simp only [go_sem, true_or, or_true, Int.cast_ofNat_Int, not_true_eq_false, true_implies, forall_const, not_false_eq_true, List.size_toArray, Array.size_empty, and_self, ne_eq, not_false_eq_true, Nat.reduceEqDiff, Nat.mul_one, List.contains_nil, List.contains_cons, Bool.false_or, Bool.or_false, false_implies, implies_true, beq_self_eq_true, Nat.reduceBEq, Int.ofNat_le, Int.reduceToNat, Int.reduceLT, Int.reduceLE, Int.reduceEq, Nat.reduceLeDiff, Nat.reduceLT, Nat.reduceEqDiff, Nat.reduceMul, Nat.reduceAdd, Nat.reduceBEq, List.length_cons, List.length_nil, String.reduceEq, i1, i2, i7, i8, i9, i10, hm2]
  refine cald_eq (wd_sim _ _) ?_ rfl
  simp only [go_sem, true_or, or_true, Int.cast_ofNat_Int, not_true_eq_false, true_implies, forall_const, not_false_eq_true, List.size_toArray, Array.size_empty, and_self, ne_eq, not_false_eq_true, Nat.reduceEqDiff, Nat.mul_one, List.contains_nil, List.contains_cons, Bool.false_or, Bool.or_false, false_implies, implies_true, beq_self_eq_true, Nat.reduceBEq, Int.ofNat_le, Int.reduceToNat, Int.reduceLT, Int.reduceLE, Int.reduceEq, Nat.reduceLeDiff, Nat.reduceLT, Nat.reduceEqDiff, Nat.reduceMul, Nat.reduceAdd, Nat.reduceBEq, List.length_cons, List.length_nil, String.reduceEq, i1, i2, i7, i8, i9, i10, hm2, ByteArray.size_append, z1, z2, z3, z4, z5, hk13, hat, Nat.zero_add]
  refine cald_eq (wd_sim _ _) ?_ rfl
  simp only [go_sem, true_or, or_true, Int.cast_ofNat_Int, not_true_eq_false, true_implies, forall_const, not_false_eq_true, List.size_toArray, Array.size_empty, and_self, ne_eq, not_false_eq_true, Nat.reduceEqDiff, Nat.mul_one, List.contains_nil, List.contains_cons, Bool.false_or, Bool.or_false, false_implies, implies_true, beq_self_eq_true, Nat.reduceBEq, Int.ofNat_le, Int.reduceToNat, Int.reduceLT, Int.reduceLE, Int.reduceEq, Nat.reduceLeDiff, Nat.reduceLT, Nat.reduceEqDiff, Nat.reduceMul, Nat.reduceAdd, Nat.reduceBEq, List.length_cons, List.length_nil, String.reduceEq, i1, i2, i7, i8, i9, i10, hm2, ByteArray.size_append, z1, z2, z3, z4, z5, hk13, hat, Nat.zero_add]
  refine hQ .normal _ ?_; clear hQ Q
  refine TS.seq (TS.of [] fun Q hQ => ?_)
  simp only [go_sem, true_or, or_true, Int.cast_ofNat_Int, not_true_eq_false, true_implies, forall_const, not_false_eq_true, List.size_toArray, Array.size_empty, and_self, ne_eq, not_false_eq_true, Nat.reduceEqDiff, Nat.mul_one, List.contains_nil, List.contains_cons, Bool.false_or, Bool.or_false, false_implies, implies_true, beq_self_eq_true, Nat.reduceBEq, Int.ofNat_le, Int.reduceToNat, Int.reduceLT, Int.reduceLE, Int.reduceEq, Nat.reduceLeDiff, Nat.reduceLT, Nat.reduceEqDiff, Nat.reduceMul, Nat.reduceAdd, Nat.reduceBEq, List.length_cons, List.length_nil, String.reduceEq, i1, i2, i7, i8, i9, i10]
  refine drn_of ⟨[], [60, 68], []⟩ [0, 0, 3, 7, 0, 16, 48, 127, 0, 0, 775, 2047, 4095, 8191] (by kernel_rfl) ?_
  simp only [go_sem, true_or, or_true, Int.cast_ofNat_Int, not_true_eq_false, true_implies, forall_const, not_false_eq_true, List.size_toArray, Array.size_empty, and_self, ne_eq, not_false_eq_true, Nat.reduceEqDiff, Nat.mul_one, List.contains_nil, List.contains_cons, Bool.false_or, Bool.or_false, false_implies, implies_true, beq_self_eq_true, Nat.reduceBEq, Int.ofNat_le, Int.reduceToNat, Int.reduceLT, Int.reduceLE, Int.reduceEq, Nat.reduceLeDiff, Nat.reduceLT, Nat.reduceEqDiff, Nat.reduceMul, Nat.reduceAdd, Nat.reduceBEq, List.length_cons, List.length_nil, String.reduceEq, i1, i2, i7, i8, i9, i10]
  refine cald_eq (wd_sim _ _) ?_ rfl
  simp only [go_sem, true_or, or_true, Int.cast_ofNat_Int, not_true_eq_false, true_implies, forall_const, not_false_eq_true, List.size_toArray, Array.size_empty, and_self, ne_eq, not_false_eq_true, Nat.reduceEqDiff, Nat.mul_one, List.contains_nil, List.contains_cons, Bool.false_or, Bool.or_false, false_implies, implies_true, beq_self_eq_true, Nat.reduceBEq, Int.ofNat_le, Int.reduceToNat, Int.reduceLT, Int.reduceLE, Int.reduceEq, Nat.reduceLeDiff, Nat.reduceLT, Nat.reduceEqDiff, Nat.reduceMul, Nat.reduceAdd, Nat.reduceBEq, List.length_cons, List.length_nil, String.reduceEq, i1, i2, i7, i8, i9, i10, ByteArray.size_append, z1, z2, z3, z4, z5, hk13, hat, Nat.zero_add]
  refine cald_eq (wd_sim _ _) ?_ rfl
  simp only [go_sem, true_or, or_true, Int.cast_ofNat_Int, not_true_eq_false, true_implies, forall_const, not_false_eq_true, List.size_toArray, Array.size_empty, and_self, ne_eq, not_false_eq_true, Nat.reduceEqDiff, Nat.mul_one, List.contains_nil, List.contains_cons, Bool.false_or, Bool.or_false, false_implies, implies_true, beq_self_eq_true, Nat.reduceBEq, Int.ofNat_le, Int.reduceToNat, Int.reduceLT, Int.reduceLE, Int.reduceEq, Nat.reduceLeDiff, Nat.reduceLT, Nat.reduceEqDiff, Nat.reduceMul, Nat.reduceAdd, Nat.reduceBEq, List.length_cons, List.length_nil, String.reduceEq, i1, i2, i7, i8, i9, i10, ByteArray.size_append, z1, z2, z3, z4, z5, hk13, hat, Nat.zero_add]
  refine hQ .normal _ ?_; clear hQ Q
  have zS : (tyS k l r).size < 900000 := by
    rw [show (tyS k l r).size = 17 + (wd l).size + (opT k).size + (wd r).size + 11 from by simp only [tyS, ByteArray.size_append]; rfl]; omega
  have zN : (tyN k l r).size < 900000 := by
    rw [show (tyN k l r).size = 17 + (wd l).size + (opT k).size + (wd r).size + 9 from by simp only [tyN, ByteArray.size_append]; rfl]; omega
  have h1 := fun m => checked_sim m (tyS k l r) zS parse_ok
  have h2 := fun m => checked_sim m (tyN k l r) zN parse_ok
  unfold tpOK at htp
  rw [← checked_Q, ← checked_Q] at htp
  generalize checkedP (tyS k l r) = X at h1 htp
  generalize checkedP (tyN k l r) = Y at h2 htp
  obtain ⟨x1, x2, x3, x4⟩ := X
  obtain ⟨y1, y2, y3, y4⟩ := Y
  dsimp only at htp
  simp only [Bool.and_eq_true, Bool.not_eq_true'] at htp
  obtain ⟨rfl, rfl, htp⟩ := htp
  generalize tpG k l r = G at htp i10
  refine TS.of [] fun Q hQ => ?_
  simp only [go_sem, true_or, or_true, Int.cast_ofNat_Int, not_true_eq_false, true_implies, forall_const, not_false_eq_true, List.size_toArray, Array.size_empty, and_self, ne_eq, not_false_eq_true, Nat.reduceEqDiff, Nat.mul_one, List.contains_nil, List.contains_cons, Bool.false_or, Bool.or_false, false_implies, implies_true, beq_self_eq_true, Nat.reduceBEq, Int.ofNat_le, Int.reduceToNat, Int.reduceLT, Int.reduceLE, Int.reduceEq, Nat.reduceLeDiff, Nat.reduceLT, Nat.reduceEqDiff, Nat.reduceMul, Nat.reduceAdd, Nat.reduceBEq, List.length_cons, List.length_nil, String.reduceEq, i1, i2, i7, i8, i9, i10]
  refine cal_eq (h1 _) ?_
  simp only [go_sem, true_or, or_true, Int.cast_ofNat_Int, not_true_eq_false, true_implies, forall_const, not_false_eq_true, List.size_toArray, Array.size_empty, and_self, ne_eq, not_false_eq_true, Nat.reduceEqDiff, Nat.mul_one, List.contains_nil, List.contains_cons, Bool.false_or, Bool.or_false, false_implies, implies_true, beq_self_eq_true, Nat.reduceBEq, Int.ofNat_le, Int.reduceToNat, Int.reduceLT, Int.reduceLE, Int.reduceEq, Nat.reduceLeDiff, Nat.reduceLT, Nat.reduceEqDiff, Nat.reduceMul, Nat.reduceAdd, Nat.reduceBEq, List.length_cons, List.length_nil, String.reduceEq, i1, i2, i7, i8, i9, i10]
  refine cal_eq (h2 _) ?_
  have hk5 : (decide ((k : Int) < 5)) = decide (k < 5) := by rw [decide_eq_decide]; omega
  cases G
  · rw [if_neg (by simp)] at htp
    simp only [go_sem, true_or, or_true, Int.cast_ofNat_Int, not_true_eq_false, true_implies, forall_const, not_false_eq_true, List.size_toArray, Array.size_empty, and_self, ne_eq, not_false_eq_true, Nat.reduceEqDiff, Nat.mul_one, List.contains_nil, List.contains_cons, Bool.false_or, Bool.or_false, false_implies, implies_true, beq_self_eq_true, Nat.reduceBEq, Int.ofNat_le, Int.reduceToNat, Int.reduceLT, Int.reduceLE, Int.reduceEq, Nat.reduceLeDiff, Nat.reduceLT, Nat.reduceEqDiff, Nat.reduceMul, Nat.reduceAdd, Nat.reduceBEq, List.length_cons, List.length_nil, String.reduceEq, i1, i2, i7, i8, i9, i10]
    simp only [decide_eq_true_eq] at htp
    subst htp
    refine hQ .ret _ ?_; clear hQ Q; refine post_ret _ _ (bb true) ?_ rfl (DropW.tail0 _ rfl) ⟨rfl, rfl⟩
    simp only [go_sem, true_or, or_true, Int.cast_ofNat_Int, not_true_eq_false, true_implies, forall_const, not_false_eq_true, List.size_toArray, Array.size_empty, and_self, ne_eq, not_false_eq_true, Nat.reduceEqDiff, Nat.mul_one, List.contains_nil, List.contains_cons, Bool.false_or, Bool.or_false, false_implies, implies_true, beq_self_eq_true, Nat.reduceBEq, Int.ofNat_le, Int.reduceToNat, Int.reduceLT, Int.reduceLE, Int.reduceEq, Nat.reduceLeDiff, Nat.reduceLT, Nat.reduceEqDiff, Nat.reduceMul, Nat.reduceAdd, Nat.reduceBEq, List.length_cons, List.length_nil, String.reduceEq]
  · by_cases g5 : (k : Int) < 5
    · rw [if_pos (by simp; omega)] at htp
      simp only [Bool.and_eq_true, decide_eq_true_eq] at htp
      obtain ⟨e1, e2⟩ := htp
      simp only [go_sem, true_or, or_true, Int.cast_ofNat_Int, not_true_eq_false, true_implies, forall_const, not_false_eq_true, List.size_toArray, Array.size_empty, and_self, ne_eq, not_false_eq_true, Nat.reduceEqDiff, Nat.mul_one, List.contains_nil, List.contains_cons, Bool.false_or, Bool.or_false, false_implies, implies_true, beq_self_eq_true, Nat.reduceBEq, Int.ofNat_le, Int.reduceToNat, Int.reduceLT, Int.reduceLE, Int.reduceEq, Nat.reduceLeDiff, Nat.reduceLT, Nat.reduceEqDiff, Nat.reduceMul, Nat.reduceAdd, Nat.reduceBEq, List.length_cons, List.length_nil, String.reduceEq, i1, i2, i7, i8, i9, i10, g5, e1, e2]
      refine hQ .ret _ ?_; clear hQ Q; refine post_ret _ _ (bb true) ?_ rfl (DropW.tail0 _ rfl) ⟨rfl, rfl⟩
      simp only [go_sem, true_or, or_true, Int.cast_ofNat_Int, not_true_eq_false, true_implies, forall_const, not_false_eq_true, List.size_toArray, Array.size_empty, and_self, ne_eq, not_false_eq_true, Nat.reduceEqDiff, Nat.mul_one, List.contains_nil, List.contains_cons, Bool.false_or, Bool.or_false, false_implies, implies_true, beq_self_eq_true, Nat.reduceBEq, Int.ofNat_le, Int.reduceToNat, Int.reduceLT, Int.reduceLE, Int.reduceEq, Nat.reduceLeDiff, Nat.reduceLT, Nat.reduceEqDiff, Nat.reduceMul, Nat.reduceAdd, Nat.reduceBEq, List.length_cons, List.length_nil, String.reduceEq]
    · rw [if_neg (by simp; omega)] at htp
      simp only [decide_eq_true_eq] at htp
      subst htp
      simp only [go_sem, true_or, or_true, Int.cast_ofNat_Int, not_true_eq_false, true_implies, forall_const, not_false_eq_true, List.size_toArray, Array.size_empty, and_self, ne_eq, not_false_eq_true, Nat.reduceEqDiff, Nat.mul_one, List.contains_nil, List.contains_cons, Bool.false_or, Bool.or_false, false_implies, implies_true, beq_self_eq_true, Nat.reduceBEq, Int.ofNat_le, Int.reduceToNat, Int.reduceLT, Int.reduceLE, Int.reduceEq, Nat.reduceLeDiff, Nat.reduceLT, Nat.reduceEqDiff, Nat.reduceMul, Nat.reduceAdd, Nat.reduceBEq, List.length_cons, List.length_nil, String.reduceEq, i1, i2, i7, i8, i9, i10, g5]
      refine hQ .ret _ ?_; clear hQ Q; refine post_ret _ _ (bb true) ?_ rfl (DropW.tail0 _ rfl) ⟨rfl, rfl⟩
      simp only [go_sem, true_or, or_true, Int.cast_ofNat_Int, not_true_eq_false, true_implies, forall_const, not_false_eq_true, List.size_toArray, Array.size_empty, and_self, ne_eq, not_false_eq_true, Nat.reduceEqDiff, Nat.mul_one, List.contains_nil, List.contains_cons, Bool.false_or, Bool.or_false, false_implies, implies_true, beq_self_eq_true, Nat.reduceBEq, Int.ofNat_le, Int.reduceToNat, Int.reduceLT, Int.reduceLE, Int.reduceEq, Nat.reduceLeDiff, Nat.reduceLT, Nat.reduceEqDiff, Nat.reduceMul, Nat.reduceAdd, Nat.reduceBEq, List.length_cons, List.length_nil, String.reduceEq]
end Go.Proofs.Ytphjldhdnmoolaa.A
/- For every input CheckTypes answers true: which operators take which types. -/
namespace Go.Proofs.Ytphjldhdnmoolaa.checkTypes
open Go Go.ChangeShapes Go.WideShapes Go.ChangeAt Go.RowKit Go.Joins Go.Proofs.Ytphjldhdnmoolaa.A
set_option maxRecDepth 100000 in
theorem lifted (os : Os) (started : os.Started) (H : Type) (enc : TypeId × Value → H) :
    ReturnsInHanded {} Try.checked os 9 .any (Rows.checkTypesSpec.pre6 enc Try.prog Try.f9 Rows.checkTypesRow.domain false) (Rows.checkTypesSpec.post enc Try.prog Try.f9 false true false false) := by
  refine returnsInHanded_of_change_sized (C := Try.checked) own started (by kernel_rfl) Try.func9
    (ChangeSpec.witness6 (enc := enc) (C := Try.checked) false ⟨#[], #[.int .i64 0, .bool false, .bool false], []⟩ 8 (by kernel_rfl) (by kernel_rfl) (by kernel_rfl) (by kernel_rfl)) ?_
  intro W base args ds gs before hval0 hW hcnd hsz0 _
  have hsz : (DataW.weightsEach Try.prog (Try.f9.params.toList ++ Rows.checkTypesSpec.plain.varTypes Try.prog) (ds ++ gs)).all (· ≤ reachBytes) = true := hsz0
  have hval : ∀ (j : Nat) t v, Try.f9.params[j]? = some t → args[j]? = some v → Value.okWide Try.prog W .any base t v := hval0
  have hW' := hW
  obtain ⟨p, q, hA0, hV, rfl, hfz, hnd⟩ := hW
  have hA : DataW.TrodAll enc Try.prog W 0 (fun _ => true) true Try.f9.params.toList args.toList ds p := hA0
  rw [Try.params9] at hA hval hsz
  obtain ⟨v0, vs0, d0, ds0, p0, q0, hargs, rfl, rfl, h0, r0⟩ := trodAll_cons hA
  obtain ⟨v1, vs1, d1, ds1, p1, q1, rfl, rfl, rfl, h1, r1⟩ := trodAll_cons r0
  obtain ⟨v2, vs2, d2, ds2, p2, q2, rfl, rfl, rfl, h2, r2⟩ := trodAll_cons r1
  obtain ⟨rfl, rfl, rfl⟩ := trodAll_nil r2
  obtain rfl : args = #[v0, v1, v2] := by cases args; simp_all
  obtain ⟨rfl, rfl⟩ := trodVars_none hV
  obtain ⟨a0, rfl, rfl, rfl, w0⟩ := open_int Try.underlying3 (hval 0 3 v0 rfl rfl) h0
  obtain ⟨a1, rfl, rfl, rfl⟩ := open_bool Try.underlying4 (hval 1 4 v1 rfl rfl) h1
  obtain ⟨a2, rfl, rfl, rfl⟩ := open_bool Try.underlying4 (hval 2 4 v2 rfl rfl) h2
  clear hA0 hval0 hsz0
  refine (calls_of_sim (types_law _ _ _ _) (relL_cons (rel_v _ _ _) (relL_cons (rel_v _ _ _) (relL_cons (rel_v _ _ _) (relL_nil _ _))))).mono fun e W' ⟨he, bel⟩ => ?_
  subst he
  exact ⟨_, rfl, _, _, _, [], _, [], hW', trodAll_mk1 (shut_bool Try.underlying4 _), (trodAll_cons_mk (shut_int Try.underlying3 w0) (trodAll_cons_mk (shut_bool Try.underlying4 _) (trodAll_cons_mk (shut_bool Try.underlying4 _) trodAll_mk0))), rfl, bel.frame _, fun h => by cases h⟩
set_option maxRecDepth 100000
theorem rec1 : Try.prog.recurses 9 = true := fact_recurses 9 90 (by kernel_rfl) (by kernel_rfl) (by kernel_rfl)
theorem q0 : (Rows.checkTypesRow.wf (OpenSpec.ofChange Rows.checkTypesSpec)) = true := by kernel_rfl
theorem q3 : (Try.f9.params.all (Try.prog.readableRec ·)) = true := by kernel_rfl
theorem q4 : (namedTie Try.prog Rows.checkTypesRow.named Rows.checkTypesSpec.vars) = true := by kernel_rfl
theorem q5 : (Rows.checkTypesRow.stops == []) = true := by kernel_rfl
theorem q7 : (Rows.checkTypesRow.knobs == []) = true := by kernel_rfl
theorem q9 : (Rows.checkTypesRow.inPlace == Try.prog.inPlace 9) = true := by kernel_rfl
theorem q10 : (Rows.checkTypesRow.unfollowed == Try.prog.unfollowed 9) = true := by kernel_rfl
theorem q11 : (Rows.checkTypesRow.recurses == Try.prog.recurses 9) = true := by rw [rec1]; kernel_rfl
theorem q12 : (Rows.checkTypesRow.named == Try.prog.varsNamed 9) = true := by kernel_rfl
theorem q13 : (Rows.checkTypesRow.maps == (Try.f9.params.toList ++ Rows.checkTypesSpec.plain.varTypes Try.prog).any (Try.prog.mapsRec ·)) = true := by kernel_rfl
theorem q14 : (Rows.checkTypesRow.ifaces == (Try.f9.params.toList ++ Rows.checkTypesSpec.plain.varTypes Try.prog).any (Try.prog.ifacesRec ·)) = true := by kernel_rfl
theorem q15 : (Rows.checkTypesRow.mapsOut == Try.prog.mapsAmong Try.f9.resultTypes.toList) = true := by kernel_rfl
theorem q16 : (Rows.checkTypesRow.loops == (Try.f9.params.toList ++ Rows.checkTypesSpec.plain.varTypes Try.prog).any (Try.prog.loopsFrom ·)) = true := by kernel_rfl
theorem q17 : (Rows.checkTypesRow.wideKeys == (Try.f9.params.toList ++ Rows.checkTypesSpec.plain.varTypes Try.prog ++ Try.f9.resultTypes.toList).any (Try.prog.wideKeysFrom ·)) = true := by kernel_rfl
theorem q18 : (Rows.checkTypesSpec.vars.all (Try.prog.varReadable ·)) = true := by kernel_rfl
theorem q19 : (Try.f9.resultTypes.all (fun t => Try.prog.readableRec t && decide (t < Try.prog.types.size))) = true := by kernel_rfl
theorem q20 : (Rows.checkTypesRow.ifacesOut == Try.f9.resultTypes.toList.any (Try.prog.ifacesRec ·)) = true := by kernel_rfl
theorem q21 : (Rows.checkTypesRow.loopsOut == Try.f9.resultTypes.toList.any (Try.prog.loopsFrom ·)) = true := by kernel_rfl
theorem q23 : (Rows.checkTypesRow.shortTexts.isNone) = true := by kernel_rfl
theorem q28 : (Rows.checkTypesRow.kinds == (if Rows.checkTypesRow.domain.isEmpty then [] else Try.f9.params.toList.map fun t => match Try.prog.underlying t with | some (.int k) => some k | _ => none)) = true := by kernel_rfl
theorem q29 : (Rows.checkTypesRow.pinned == Rows.checkTypesRow.pinnedBy) = true := by kernel_rfl
theorem q30 : (Rows.checkTypesRow.veiled == (Try.f9.params.toList ++ Rows.checkTypesSpec.plain.varTypes Try.prog ++ Try.f9.resultTypes.toList).any (Try.prog.veiledRec ·)) = true := by kernel_rfl
theorem q31 : (Rows.checkTypesRow.veiledFits Try.prog Try.f9.params.toList (Try.f9.params.toList ++ Rows.checkTypesSpec.plain.varTypes Try.prog ++ Try.f9.resultTypes.toList)) = true := by kernel_rfl
theorem joined : joinedFacts Try.prog 9 Try.f9 Rows.checkTypesSpec Rows.checkTypesRow = true := (and2 (and2 (and2 (and2 (and2 (and2 (and2 (and2 (and2 (and2 (and2 (and2 (and2 (and2 (and2 (and2 (and2 (and2 (and2 (and2 (and2 (and2 (and2 (and2 (and2 (and2 (and2 (and2 (and2 (and2 (and2 q0 fact_laid) fact_maps) q3) q4) q5) fact_stops) q7) fact_knobs) q9) q10) q11) q12) q13) q14) q15) q16) q17) q18) q19) q20) q21) fact_keys) q23) fact_heard) fact_enter) fact_lifted) fact_make) q28) q29) q30) q31)
theorem over : Rows.checkTypesRow.holds Try.pinned (OpenSpec.ofChange Rows.checkTypesSpec) :=
  OpenClaim.holds_of_wide 9 Try.f9 rfl rfl rfl rfl rfl rfl rfl ⟨rfl, rfl, rfl, rfl, rfl⟩ rfl rfl rfl rfl rfl (by kernel_rfl) Try.func9 joined
    (of_decide_eq_true (by kernel_rfl)) (by unfold Func.isWrapper; first | (rw [if_pos (by decide +kernel)]; kernel_rfl) | (rw [if_neg (by decide +kernel)]; exact ⟨rfl, rfl⟩))
    (fun os started H enc _ => lifted os started H enc)
theorem proved : Rows.CheckTypesSaid := over
#print axioms proved
end Go.Proofs.Ytphjldhdnmoolaa.checkTypes
namespace Go.Proofs.Ytphjldhdnmoolaa
/-- The row, under a short name, for the claim. -/
theorem checkTypes_holds : Rows.CheckTypesSaid := checkTypes.proved
end Go.Proofs.Ytphjldhdnmoolaa
