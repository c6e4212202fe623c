/- Joined: E1, E2, E3, E4, F0, E5, B25, B28, B29, G0, G1, G2, G3, R0, B1 -/
import Derived.Test.YtphjldhdnmoolaaJBase2
set_option linter.unusedVariables false
set_option linter.unusedSimpArgs false
/- The walks of some functions over the abstract machine. -/
namespace Go.Proofs.Ytphjldhdnmoolaa.A
open Go
/-! expressions' values, as plain functions -/
structure RS where
  lsn : Int
  cs : List Int
  kn : List Ent
  kc : Nat
abbrev w64 (n : Int) : Int := IntKind.i64.wrap n
def bit (b : Bool) : Int := if b then 1 else 0
def getC (cs : List Int) (i : Int) : Int := if i < 0 ∨ 60 ≤ i then 0 else cs.getD i.toNat 0
def operP (s : Bytes) (a b : Int) : Option Int :=
  if s = qAdd then some (w64 (a + b)) else if s = qSub then some (w64 (a - b)) else if s = qMul then some (w64 (a * b))
  else if s = qDiv then some (if b = 0 then 0 else w64 (a.tdiv b)) else if s = qRem then some (if b = 0 then 0 else a.tmod b)
  else if s = qLt then some (bit (decide (a < b))) else if s = qLe then some (bit (decide (a ≤ b))) else if s = qGt then some (bit (decide (b < a))) else if s = qGe then some (bit (decide (b ≤ a)))
  else if s = qEq then some (bit (decide (a = b))) else if s = qNe then some (bit (!decide (a = b)))
  else if s = qAnd then some (bit (!decide (a = 0) && !decide (b = 0))) else if s = qOr then some (bit (!decide (a = 0) || !decide (b = 0))) else none
def val1 (k n : Int) (s : Bytes) (A : List Int) (rs : RS) : Option Int :=
  if k = 1 ∧ A = [] then some n
  else if k = 2 ∧ A = [] then if s = qTrue ∨ s = qFalse then some (bit (decide (s = qTrue))) else getM s rs.kn
  else match k, A with
    | 3, [a] => some (getC rs.cs a)
    | 4, [a] => some (bit (decide (a = 0)))
    | 5, [a] => some (w64 (0 - a))
    | 6, [a, b] => operP s a b
    | _, _ => none
mutual
def valE : Expr → RS → Option Int
  | .mk k n s a _, rs => (valEs a rs).bind fun A => val1 k n s A rs
def valEs : List Expr → RS → Option (List Int)
  | [], _ => some []
  | e :: l, rs => (valE e rs).bind fun x => (valEs l rs).map fun y => x :: y
end
set_option maxRecDepth 100000 in
set_option maxHeartbeats 4000000 in
theorem bit_sim (m : Mem) (b : Bool) : Sim 84 [bb b] m (fun r m' => r = ii (bit b) ∧ m' = m) := by
  refine Sim.ofS 4 [.tmp 2] Try.func84 rfl rfl rfl (by simp) fun wr => ?_
  simp only [go_sem, Nat.reduceEqDiff, Nat.reduceBEq, Int.reduceToNat, Int.reduceLT, Int.reduceLE, Int.reduceEq, Nat.reduceLeDiff, Nat.reduceLT, Nat.reduceMul, Nat.reduceAdd, String.reduceEq]
  cases b
  all_goals refine TS.of [] fun Q hQ => ?_
  all_goals simp only [go_sem, Nat.reduceEqDiff, Nat.reduceBEq, Int.reduceToNat, Int.reduceLT, Int.reduceLE, Int.reduceEq, Nat.reduceLeDiff, Nat.reduceLT, Nat.reduceMul, Nat.reduceAdd, String.reduceEq]
  all_goals refine hQ .ret _ ?_; exact post_ret _ _ _ rfl rfl (DropW.refl _) ⟨rfl, rfl⟩
def operR (s : Bytes) (a b : Int) : IV := match operP s a b with
  | some n => .tup [ii n, bb true]
  | none => .tup [ii 0, bb false]
theorem oper_ok (s : Bytes) (a b n : Int) (h : operP s a b = some n) : operR s a b = .tup [ii n, bb true] := by unfold operR; rw [h]
theorem oper_no (s : Bytes) (a b : Int) (h : operP s a b = none) : operR s a b = .tup [ii 0, bb false] := by unfold operR; rw [h]
set_option maxRecDepth 100000 in
set_option maxHeartbeats 4000000 in
theorem operate_sim (m : Mem) (s : Bytes) (a b : Int) : Sim 86 [ss s, ii a, ii b] m (fun r m' => r = operR s a b ∧ m' = m) := by
  refine Sim.ofS 92 [.tmp 6, .tmp 7] Try.func86 rfl rfl rfl (by simp) fun wr => ?_
  simp only [go_sem, Nat.reduceEqDiff, Nat.reduceBEq, Int.reduceToNat, Int.reduceLT, Int.reduceLE, Int.reduceEq, Nat.reduceLeDiff, Nat.reduceLT, Nat.reduceMul, Nat.reduceAdd, String.reduceEq]
  by_cases e0 : s = qAdd
  · have d0 : decide (s = ({ data := #[43] } : Bytes)) = true := decide_eq_true e0
    have hv := oper_ok s a b (w64 (a + b)) (by unfold operP; rw [if_pos e0])
    rw [hv]
    refine TS.of [] fun Q hQ => ?_
    simp only [go_sem, Nat.reduceEqDiff, Nat.reduceBEq, Int.reduceToNat, Int.reduceLT, Int.reduceLE, Int.reduceEq, Nat.reduceLeDiff, Nat.reduceLT, Nat.reduceMul, Nat.reduceAdd, String.reduceEq, d0]
    refine hQ .ret _ ?_; exact post_ret _ _ _ rfl rfl (DropW.refl _) ⟨rfl, rfl⟩
  have d0 : decide (s = ({ data := #[43] } : Bytes)) = false := decide_eq_false e0
  by_cases e1 : s = qSub
  · have d1 : decide (s = ({ data := #[45] } : Bytes)) = true := decide_eq_true e1
    have hv := oper_ok s a b (w64 (a - b)) (by unfold operP; rw [if_neg e0, if_pos e1])
    rw [hv]
    refine TS.of [] fun Q hQ => ?_
    simp only [go_sem, Nat.reduceEqDiff, Nat.reduceBEq, Int.reduceToNat, Int.reduceLT, Int.reduceLE, Int.reduceEq, Nat.reduceLeDiff, Nat.reduceLT, Nat.reduceMul, Nat.reduceAdd, String.reduceEq, d0, d1]
    refine hQ .ret _ ?_; exact post_ret _ _ _ rfl rfl (DropW.refl _) ⟨rfl, rfl⟩
  have d1 : decide (s = ({ data := #[45] } : Bytes)) = false := decide_eq_false e1
  by_cases e2 : s = qMul
  · have d2 : decide (s = ({ data := #[42] } : Bytes)) = true := decide_eq_true e2
    have hv := oper_ok s a b (w64 (a * b)) (by unfold operP; rw [if_neg e0, if_neg e1, if_pos e2])
    rw [hv]
    refine TS.of [] fun Q hQ => ?_
    simp only [go_sem, Nat.reduceEqDiff, Nat.reduceBEq, Int.reduceToNat, Int.reduceLT, Int.reduceLE, Int.reduceEq, Nat.reduceLeDiff, Nat.reduceLT, Nat.reduceMul, Nat.reduceAdd, String.reduceEq, d0, d1, d2]
    refine hQ .ret _ ?_; exact post_ret _ _ _ rfl rfl (DropW.refl _) ⟨rfl, rfl⟩
  have d2 : decide (s = ({ data := #[42] } : Bytes)) = false := decide_eq_false e2
  by_cases e3 : s = qDiv
  · have d3 : decide (s = ({ data := #[47] } : Bytes)) = true := decide_eq_true e3
    have hv := oper_ok s a b (if b = 0 then 0 else w64 (a.tdiv b)) (by unfold operP; rw [if_neg e0, if_neg e1, if_neg e2, if_pos e3])
    rw [hv]
    by_cases hb : b = 0
    · refine TS.of [] fun Q hQ => ?_
      simp only [go_sem, Nat.reduceEqDiff, Nat.reduceBEq, Int.reduceToNat, Int.reduceLT, Int.reduceLE, Int.reduceEq, Nat.reduceLeDiff, Nat.reduceLT, Nat.reduceMul, Nat.reduceAdd, String.reduceEq, d0, d1, d2, d3, hb]
      refine hQ .ret _ ?_; exact post_ret _ _ _ rfl rfl (DropW.refl _) ⟨by rw [if_pos hb]; rfl, rfl⟩
    · refine TS.of [] fun Q hQ => ?_
      simp only [go_sem, Nat.reduceEqDiff, Nat.reduceBEq, Int.reduceToNat, Int.reduceLT, Int.reduceLE, Int.reduceEq, Nat.reduceLeDiff, Nat.reduceLT, Nat.reduceMul, Nat.reduceAdd, String.reduceEq, d0, d1, d2, d3, hb]
      refine hQ .ret _ ?_; exact post_ret _ _ _ rfl rfl (DropW.refl _) ⟨by rw [if_neg hb]; rfl, rfl⟩
  have d3 : decide (s = ({ data := #[47] } : Bytes)) = false := decide_eq_false e3
  by_cases e4 : s = qRem
  · have d4 : decide (s = ({ data := #[37] } : Bytes)) = true := decide_eq_true e4
    have hv := oper_ok s a b (if b = 0 then 0 else a.tmod b) (by unfold operP; rw [if_neg e0, if_neg e1, if_neg e2, if_neg e3, if_pos e4])
    rw [hv]
    by_cases hb : b = 0
    · refine TS.of [] fun Q hQ => ?_
      simp only [go_sem, Nat.reduceEqDiff, Nat.reduceBEq, Int.reduceToNat, Int.reduceLT, Int.reduceLE, Int.reduceEq, Nat.reduceLeDiff, Nat.reduceLT, Nat.reduceMul, Nat.reduceAdd, String.reduceEq, d0, d1, d2, d3, d4, hb]
      refine hQ .ret _ ?_; exact post_ret _ _ _ rfl rfl (DropW.refl _) ⟨by rw [if_pos hb]; rfl, rfl⟩
    · refine TS.of [] fun Q hQ => ?_
      simp only [go_sem, Nat.reduceEqDiff, Nat.reduceBEq, Int.reduceToNat, Int.reduceLT, Int.reduceLE, Int.reduceEq, Nat.reduceLeDiff, Nat.reduceLT, Nat.reduceMul, Nat.reduceAdd, String.reduceEq, d0, d1, d2, d3, d4, hb]
      refine hQ .ret _ ?_; exact post_ret _ _ _ rfl rfl (DropW.refl _) ⟨by rw [if_neg hb]; rfl, rfl⟩
  have d4 : decide (s = ({ data := #[37] } : Bytes)) = false := decide_eq_false e4
  by_cases e5 : s = qLt
  · have d5 : decide (s = ({ data := #[60] } : Bytes)) = true := decide_eq_true e5
    have hv := oper_ok s a b (bit (decide (a < b))) (by unfold operP; rw [if_neg e0, if_neg e1, if_neg e2, if_neg e3, if_neg e4, if_pos e5])
    rw [hv]
    refine TS.of [] fun Q hQ => ?_
    simp only [go_sem, Nat.reduceEqDiff, Nat.reduceBEq, Int.reduceToNat, Int.reduceLT, Int.reduceLE, Int.reduceEq, Nat.reduceLeDiff, Nat.reduceLT, Nat.reduceMul, Nat.reduceAdd, String.reduceEq, d0, d1, d2, d3, d4, d5]
    refine cal_eq (bit_sim _ _) ?_
    simp only [go_sem, Nat.reduceEqDiff, Nat.reduceBEq, Int.reduceToNat, Int.reduceLT, Int.reduceLE, Int.reduceEq, Nat.reduceLeDiff, Nat.reduceLT, Nat.reduceMul, Nat.reduceAdd, String.reduceEq]
    refine hQ .ret _ ?_; exact post_ret _ _ _ rfl rfl (DropW.refl _) ⟨rfl, rfl⟩
  have d5 : decide (s = ({ data := #[60] } : Bytes)) = false := decide_eq_false e5
  by_cases e6 : s = qLe
  · have d6 : decide (s = ({ data := #[60, 61] } : Bytes)) = true := decide_eq_true e6
    have hv := oper_ok s a b (bit (decide (a ≤ b))) (by unfold operP; rw [if_neg e0, if_neg e1, if_neg e2, if_neg e3, if_neg e4, if_neg e5, if_pos e6])
    rw [hv]
    refine TS.of [] fun Q hQ => ?_
    simp only [go_sem, Nat.reduceEqDiff, Nat.reduceBEq, Int.reduceToNat, Int.reduceLT, Int.reduceLE, Int.reduceEq, Nat.reduceLeDiff, Nat.reduceLT, Nat.reduceMul, Nat.reduceAdd, String.reduceEq, d0, d1, d2, d3, d4, d5, d6]
    refine cal_eq (bit_sim _ _) ?_
    simp only [go_sem, Nat.reduceEqDiff, Nat.reduceBEq, Int.reduceToNat, Int.reduceLT, Int.reduceLE, Int.reduceEq, Nat.reduceLeDiff, Nat.reduceLT, Nat.reduceMul, Nat.reduceAdd, String.reduceEq]
    refine hQ .ret _ ?_; exact post_ret _ _ _ rfl rfl (DropW.refl _) ⟨rfl, rfl⟩
  have d6 : decide (s = ({ data := #[60, 61] } : Bytes)) = false := decide_eq_false e6
  by_cases e7 : s = qGt
  · have d7 : decide (s = ({ data := #[62] } : Bytes)) = true := decide_eq_true e7
    have hv := oper_ok s a b (bit (decide (b < a))) (by unfold operP; rw [if_neg e0, if_neg e1, if_neg e2, if_neg e3, if_neg e4, if_neg e5, if_neg e6, if_pos e7])
    rw [hv]
    refine TS.of [] fun Q hQ => ?_
    simp only [go_sem, Nat.reduceEqDiff, Nat.reduceBEq, Int.reduceToNat, Int.reduceLT, Int.reduceLE, Int.reduceEq, Nat.reduceLeDiff, Nat.reduceLT, Nat.reduceMul, Nat.reduceAdd, String.reduceEq, d0, d1, d2, d3, d4, d5, d6, d7]
    refine cal_eq (bit_sim _ _) ?_
    simp only [go_sem, Nat.reduceEqDiff, Nat.reduceBEq, Int.reduceToNat, Int.reduceLT, Int.reduceLE, Int.reduceEq, Nat.reduceLeDiff, Nat.reduceLT, Nat.reduceMul, Nat.reduceAdd, String.reduceEq]
    refine hQ .ret _ ?_; exact post_ret _ _ _ rfl rfl (DropW.refl _) ⟨rfl, rfl⟩
  have d7 : decide (s = ({ data := #[62] } : Bytes)) = false := decide_eq_false e7
  by_cases e8 : s = qGe
  · have d8 : decide (s = ({ data := #[62, 61] } : Bytes)) = true := decide_eq_true e8
    have hv := oper_ok s a b (bit (decide (b ≤ a))) (by unfold operP; rw [if_neg e0, if_neg e1, if_neg e2, if_neg e3, if_neg e4, if_neg e5, if_neg e6, if_neg e7, if_pos e8])
    rw [hv]
    refine TS.of [] fun Q hQ => ?_
    simp only [go_sem, Nat.reduceEqDiff, Nat.reduceBEq, Int.reduceToNat, Int.reduceLT, Int.reduceLE, Int.reduceEq, Nat.reduceLeDiff, Nat.reduceLT, Nat.reduceMul, Nat.reduceAdd, String.reduceEq, d0, d1, d2, d3, d4, d5, d6, d7, d8]
    refine cal_eq (bit_sim _ _) ?_
    simp only [go_sem, Nat.reduceEqDiff, Nat.reduceBEq, Int.reduceToNat, Int.reduceLT, Int.reduceLE, Int.reduceEq, Nat.reduceLeDiff, Nat.reduceLT, Nat.reduceMul, Nat.reduceAdd, String.reduceEq]
    refine hQ .ret _ ?_; exact post_ret _ _ _ rfl rfl (DropW.refl _) ⟨rfl, rfl⟩
  have d8 : decide (s = ({ data := #[62, 61] } : Bytes)) = false := decide_eq_false e8
  by_cases e9 : s = qEq
  · have d9 : decide (s = ({ data := #[61, 61] } : Bytes)) = true := decide_eq_true e9
    have hv := oper_ok s a b (bit (decide (a = b))) (by unfold operP; rw [if_neg e0, if_neg e1, if_neg e2, if_neg e3, if_neg e4, if_neg e5, if_neg e6, if_neg e7, if_neg e8, if_pos e9])
    rw [hv]
    refine TS.of [] fun Q hQ => ?_
    simp only [go_sem, Nat.reduceEqDiff, Nat.reduceBEq, Int.reduceToNat, Int.reduceLT, Int.reduceLE, Int.reduceEq, Nat.reduceLeDiff, Nat.reduceLT, Nat.reduceMul, Nat.reduceAdd, String.reduceEq, d0, d1, d2, d3, d4, d5, d6, d7, d8, d9]
    refine cal_eq (bit_sim _ _) ?_
    simp only [go_sem, Nat.reduceEqDiff, Nat.reduceBEq, Int.reduceToNat, Int.reduceLT, Int.reduceLE, Int.reduceEq, Nat.reduceLeDiff, Nat.reduceLT, Nat.reduceMul, Nat.reduceAdd, String.reduceEq]
    refine hQ .ret _ ?_; exact post_ret _ _ _ rfl rfl (DropW.refl _) ⟨rfl, rfl⟩
  have d9 : decide (s = ({ data := #[61, 61] } : Bytes)) = false := decide_eq_false e9
  by_cases e10 : s = qNe
  · have d10 : decide (s = ({ data := #[33, 61] } : Bytes)) = true := decide_eq_true e10
    have hv := oper_ok s a b (bit (!decide (a = b))) (by unfold operP; rw [if_neg e0, if_neg e1, if_neg e2, if_neg e3, if_neg e4, if_neg e5, if_neg e6, if_neg e7, if_neg e8, if_neg e9, if_pos e10])
    rw [hv]
    refine TS.of [] fun Q hQ => ?_
    simp only [go_sem, Nat.reduceEqDiff, Nat.reduceBEq, Int.reduceToNat, Int.reduceLT, Int.reduceLE, Int.reduceEq, Nat.reduceLeDiff, Nat.reduceLT, Nat.reduceMul, Nat.reduceAdd, String.reduceEq, d0, d1, d2, d3, d4, d5, d6, d7, d8, d9, d10]
    refine cal_eq (bit_sim _ _) ?_
    simp only [go_sem, Nat.reduceEqDiff, Nat.reduceBEq, Int.reduceToNat, Int.reduceLT, Int.reduceLE, Int.reduceEq, Nat.reduceLeDiff, Nat.reduceLT, Nat.reduceMul, Nat.reduceAdd, String.reduceEq]
    refine hQ .ret _ ?_; exact post_ret _ _ _ rfl rfl (DropW.refl _) ⟨rfl, rfl⟩
  have d10 : decide (s = ({ data := #[33, 61] } : Bytes)) = false := decide_eq_false e10
  by_cases e11 : s = qAnd
  · have d11 : decide (s = ({ data := #[38, 38] } : Bytes)) = true := decide_eq_true e11
    have hv := oper_ok s a b (bit (!decide (a = 0) && !decide (b = 0))) (by unfold operP; rw [if_neg e0, if_neg e1, if_neg e2, if_neg e3, if_neg e4, if_neg e5, if_neg e6, if_neg e7, if_neg e8, if_neg e9, if_neg e10, if_pos e11])
    by_cases ha : a = 0
    · by_cases hb : b = 0
      · rw [hv, show (!decide (a = 0) && !decide (b = 0)) = false from by simp [ha, hb]]
        refine TS.of [] fun Q hQ => ?_
        simp only [go_sem, Nat.reduceEqDiff, Nat.reduceBEq, Int.reduceToNat, Int.reduceLT, Int.reduceLE, Int.reduceEq, Nat.reduceLeDiff, Nat.reduceLT, Nat.reduceMul, Nat.reduceAdd, String.reduceEq, d0, d1, d2, d3, d4, d5, d6, d7, d8, d9, d10, d11, ha, hb]
        refine cal_eq (bit_sim _ _) ?_
        simp only [go_sem, Nat.reduceEqDiff, Nat.reduceBEq, Int.reduceToNat, Int.reduceLT, Int.reduceLE, Int.reduceEq, Nat.reduceLeDiff, Nat.reduceLT, Nat.reduceMul, Nat.reduceAdd, String.reduceEq]
        refine hQ .ret _ ?_; exact post_ret _ _ _ rfl rfl (DropW.refl _) ⟨rfl, rfl⟩
      · rw [hv, show (!decide (a = 0) && !decide (b = 0)) = false from by simp [ha, hb]]
        refine TS.of [] fun Q hQ => ?_
        simp only [go_sem, Nat.reduceEqDiff, Nat.reduceBEq, Int.reduceToNat, Int.reduceLT, Int.reduceLE, Int.reduceEq, Nat.reduceLeDiff, Nat.reduceLT, Nat.reduceMul, Nat.reduceAdd, String.reduceEq, d0, d1, d2, d3, d4, d5, d6, d7, d8, d9, d10, d11, ha, hb]
        refine cal_eq (bit_sim _ _) ?_
        simp only [go_sem, Nat.reduceEqDiff, Nat.reduceBEq, Int.reduceToNat, Int.reduceLT, Int.reduceLE, Int.reduceEq, Nat.reduceLeDiff, Nat.reduceLT, Nat.reduceMul, Nat.reduceAdd, String.reduceEq]
        refine hQ .ret _ ?_; exact post_ret _ _ _ rfl rfl (DropW.refl _) ⟨rfl, rfl⟩
    · by_cases hb : b = 0
      · rw [hv, show (!decide (a = 0) && !decide (b = 0)) = false from by simp [ha, hb]]
        refine TS.of [] fun Q hQ => ?_
        simp only [go_sem, Nat.reduceEqDiff, Nat.reduceBEq, Int.reduceToNat, Int.reduceLT, Int.reduceLE, Int.reduceEq, Nat.reduceLeDiff, Nat.reduceLT, Nat.reduceMul, Nat.reduceAdd, String.reduceEq, d0, d1, d2, d3, d4, d5, d6, d7, d8, d9, d10, d11, ha, hb]
        refine cal_eq (bit_sim _ _) ?_
        simp only [go_sem, Nat.reduceEqDiff, Nat.reduceBEq, Int.reduceToNat, Int.reduceLT, Int.reduceLE, Int.reduceEq, Nat.reduceLeDiff, Nat.reduceLT, Nat.reduceMul, Nat.reduceAdd, String.reduceEq]
        refine hQ .ret _ ?_; exact post_ret _ _ _ rfl rfl (DropW.refl _) ⟨rfl, rfl⟩
      · rw [hv, show (!decide (a = 0) && !decide (b = 0)) = true from by simp [ha, hb]]
        refine TS.of [] fun Q hQ => ?_
        simp only [go_sem, Nat.reduceEqDiff, Nat.reduceBEq, Int.reduceToNat, Int.reduceLT, Int.reduceLE, Int.reduceEq, Nat.reduceLeDiff, Nat.reduceLT, Nat.reduceMul, Nat.reduceAdd, String.reduceEq, d0, d1, d2, d3, d4, d5, d6, d7, d8, d9, d10, d11, ha, hb]
        refine cal_eq (bit_sim _ _) ?_
        simp only [go_sem, Nat.reduceEqDiff, Nat.reduceBEq, Int.reduceToNat, Int.reduceLT, Int.reduceLE, Int.reduceEq, Nat.reduceLeDiff, Nat.reduceLT, Nat.reduceMul, Nat.reduceAdd, String.reduceEq]
        refine hQ .ret _ ?_; exact post_ret _ _ _ rfl rfl (DropW.refl _) ⟨rfl, rfl⟩
  have d11 : decide (s = ({ data := #[38, 38] } : Bytes)) = false := decide_eq_false e11
  by_cases e12 : s = qOr
  · have d12 : decide (s = ({ data := #[124, 124] } : Bytes)) = true := decide_eq_true e12
    have hv := oper_ok s a b (bit (!decide (a = 0) || !decide (b = 0))) (by unfold operP; rw [if_neg e0, if_neg e1, if_neg e2, if_neg e3, if_neg e4, if_neg e5, if_neg e6, if_neg e7, if_neg e8, if_neg e9, if_neg e10, if_neg e11, if_pos e12])
    by_cases ha : a = 0
    · by_cases hb : b = 0
      · rw [hv, show (!decide (a = 0) || !decide (b = 0)) = false from by simp [ha, hb]]
        refine TS.of [] fun Q hQ => ?_
        simp only [go_sem, Nat.reduceEqDiff, Nat.reduceBEq, Int.reduceToNat, Int.reduceLT, Int.reduceLE, Int.reduceEq, Nat.reduceLeDiff, Nat.reduceLT, Nat.reduceMul, Nat.reduceAdd, String.reduceEq, d0, d1, d2, d3, d4, d5, d6, d7, d8, d9, d10, d11, d12, ha, hb]
        refine cal_eq (bit_sim _ _) ?_
        simp only [go_sem, Nat.reduceEqDiff, Nat.reduceBEq, Int.reduceToNat, Int.reduceLT, Int.reduceLE, Int.reduceEq, Nat.reduceLeDiff, Nat.reduceLT, Nat.reduceMul, Nat.reduceAdd, String.reduceEq]
        refine hQ .ret _ ?_; exact post_ret _ _ _ rfl rfl (DropW.refl _) ⟨rfl, rfl⟩
      · rw [hv, show (!decide (a = 0) || !decide (b = 0)) = true from by simp [ha, hb]]
        refine TS.of [] fun Q hQ => ?_
        simp only [go_sem, Nat.reduceEqDiff, Nat.reduceBEq, Int.reduceToNat, Int.reduceLT, Int.reduceLE, Int.reduceEq, Nat.reduceLeDiff, Nat.reduceLT, Nat.reduceMul, Nat.reduceAdd, String.reduceEq, d0, d1, d2, d3, d4, d5, d6, d7, d8, d9, d10, d11, d12, ha, hb]
        refine cal_eq (bit_sim _ _) ?_
        simp only [go_sem, Nat.reduceEqDiff, Nat.reduceBEq, Int.reduceToNat, Int.reduceLT, Int.reduceLE, Int.reduceEq, Nat.reduceLeDiff, Nat.reduceLT, Nat.reduceMul, Nat.reduceAdd, String.reduceEq]
        refine hQ .ret _ ?_; exact post_ret _ _ _ rfl rfl (DropW.refl _) ⟨rfl, rfl⟩
    · by_cases hb : b = 0
      · rw [hv, show (!decide (a = 0) || !decide (b = 0)) = true from by simp [ha, hb]]
        refine TS.of [] fun Q hQ => ?_
        simp only [go_sem, Nat.reduceEqDiff, Nat.reduceBEq, Int.reduceToNat, Int.reduceLT, Int.reduceLE, Int.reduceEq, Nat.reduceLeDiff, Nat.reduceLT, Nat.reduceMul, Nat.reduceAdd, String.reduceEq, d0, d1, d2, d3, d4, d5, d6, d7, d8, d9, d10, d11, d12, ha, hb]
        refine cal_eq (bit_sim _ _) ?_
        simp only [go_sem, Nat.reduceEqDiff, Nat.reduceBEq, Int.reduceToNat, Int.reduceLT, Int.reduceLE, Int.reduceEq, Nat.reduceLeDiff, Nat.reduceLT, Nat.reduceMul, Nat.reduceAdd, String.reduceEq]
        refine hQ .ret _ ?_; exact post_ret _ _ _ rfl rfl (DropW.refl _) ⟨rfl, rfl⟩
      · rw [hv, show (!decide (a = 0) || !decide (b = 0)) = true from by simp [ha, hb]]
        refine TS.of [] fun Q hQ => ?_
        simp only [go_sem, Nat.reduceEqDiff, Nat.reduceBEq, Int.reduceToNat, Int.reduceLT, Int.reduceLE, Int.reduceEq, Nat.reduceLeDiff, Nat.reduceLT, Nat.reduceMul, Nat.reduceAdd, String.reduceEq, d0, d1, d2, d3, d4, d5, d6, d7, d8, d9, d10, d11, d12, ha, hb]
        refine cal_eq (bit_sim _ _) ?_
        simp only [go_sem, Nat.reduceEqDiff, Nat.reduceBEq, Int.reduceToNat, Int.reduceLT, Int.reduceLE, Int.reduceEq, Nat.reduceLeDiff, Nat.reduceLT, Nat.reduceMul, Nat.reduceAdd, String.reduceEq]
        refine hQ .ret _ ?_; exact post_ret _ _ _ rfl rfl (DropW.refl _) ⟨rfl, rfl⟩
  have d12 : decide (s = ({ data := #[124, 124] } : Bytes)) = false := decide_eq_false e12
  rw [oper_no s a b (by unfold operP; rw [if_neg e0, if_neg e1, if_neg e2, if_neg e3, if_neg e4, if_neg e5, if_neg e6, if_neg e7, if_neg e8, if_neg e9, if_neg e10, if_neg e11, if_neg e12])]
  refine TS.of [] fun Q hQ => ?_
  simp only [go_sem, Nat.reduceEqDiff, Nat.reduceBEq, Int.reduceToNat, Int.reduceLT, Int.reduceLE, Int.reduceEq, Nat.reduceLeDiff, Nat.reduceLT, Nat.reduceMul, Nat.reduceAdd, String.reduceEq, d0, d1, d2, d3, d4, d5, d6, d7, d8, d9, d10, d11, d12]
  refine hQ .ret _ ?_; exact post_ret _ _ _ rfl rfl (DropW.refl _) ⟨rfl, rfl⟩
abbrev pgI (lsn : Int) (cs : List Int) : List IV := ii lsn :: cs.map (IV.v <| .int .i64 ·)
theorem drop_cells {cs : List Int} {i : Int} (h0 : 0 ≤ i) (h1 : i < 60) (hl : cs.length = 60) (t : List IV) : ((cs.map (IV.v <| .int .i64 ·)) ++ t).drop i.toNat = ii (getC cs i) :: ((cs.map (IV.v <| .int .i64 ·)) ++ t).drop (i.toNat + 1) := by
  have hi : i.toNat < cs.length := by omega
  rw [List.drop_eq_getElem_cons (by simp; omega)]
  congr 1
  rw [List.getElem_append_left (by simpa using hi)]
  simp only [List.getElem_map, getC]
  rw [if_neg (by omega), List.getD_eq_getElem?_getD, List.getElem?_eq_getElem hi]; rfl
theorem ints_one (l : List Int) : (l.map (IV.v <| .int .i64 ·)).all IV.one = true := by simp [IV.one, Value.oneCell']
theorem ints_sh (l : List Int) : (l.map (IV.v <| .int .i64 ·)).map IV.sh = l.map (IV.v <| .int .i64 ·) := by simp [IV.sh]
theorem ints_ints : ∀ l : List Int, ints (l.map (IV.v <| .int .i64 ·)) = some l
  | [] => rfl
  | a :: l => by rw [List.map_cons]; simp only [ints]; rw [ints_ints l]; rfl
set_option maxRecDepth 100000 in
set_option maxHeartbeats 4000000 in
theorem get_sim (m : Mem) (lsn : Int) (cs : List Int) (hl : cs.length = 60) (i : Int) : Sim 85 [.agg (pgI lsn cs), ii i] m (fun r m' => r = .tup [ii (getC cs i), bb (decide (0 ≤ i ∧ i < 60))] ∧ m' = m) := by
  refine Sim.ofS 16 [.tmp 4, .tmp 5] Try.func85 rfl rfl rfl (by simp) fun wr => ?_
  simp only [go_sem, Nat.reduceEqDiff, Nat.reduceBEq, Int.reduceToNat, Int.reduceLT, Int.reduceLE, Int.reduceEq, Nat.reduceLeDiff, Nat.reduceLT, Nat.reduceMul, Nat.reduceAdd, String.reduceEq]
  by_cases h0 : i < 0
  · refine TS.of [2] fun Q hQ => ?_
    simp only [go_sem, Nat.reduceEqDiff, Nat.reduceBEq, Int.reduceToNat, Int.reduceLT, Int.reduceLE, Int.reduceEq, Nat.reduceLeDiff, Nat.reduceLT, Nat.reduceMul, Nat.reduceAdd, String.reduceEq, h0, ints_one, ints_sh]
    refine hQ .ret _ ?_; exact post_ret _ _ _ rfl rfl (DropW.refl _) ⟨by rw [getC, if_pos (.inl h0), decide_eq_false (by omega)]; rfl, rfl⟩
  · by_cases h1 : 60 ≤ i
    · refine TS.of [2] fun Q hQ => ?_
      simp only [go_sem, Nat.reduceEqDiff, Nat.reduceBEq, Int.reduceToNat, Int.reduceLT, Int.reduceLE, Int.reduceEq, Nat.reduceLeDiff, Nat.reduceLT, Nat.reduceMul, Nat.reduceAdd, String.reduceEq, h0, h1, ints_one, ints_sh]
      refine hQ .ret _ ?_; exact post_ret _ _ _ rfl rfl (DropW.refl _) ⟨by rw [getC, if_pos (.inr h1), decide_eq_false (by omega)]; rfl, rfl⟩
    · have hd := drop_cells (i := i) (by omega) (by omega) hl ([] : List IV)
      rw [List.append_nil] at hd
      refine TS.of [2] fun Q hQ => ?_
      simp only [go_sem, Nat.reduceEqDiff, Nat.reduceBEq, Int.reduceToNat, Int.reduceLT, Int.reduceLE, Int.reduceEq, Nat.reduceLeDiff, Nat.reduceLT, Nat.reduceMul, Nat.reduceAdd, String.reduceEq, h0, h1, ints_one, ints_sh, show (0 : Int) ≤ i by omega, show i < 60 by omega, hd]
      refine hQ .ret _ ?_; exact post_ret _ _ _ rfl rfl (DropW.refl _) ⟨by rw [decide_eq_true (by omega)]; rfl, rfl⟩
abbrev cellsR (o : Nat) (rs : RS) : List IV := ii rs.lsn :: (rs.cs.map (IV.v <| .int .i64 ·) ++ [.map o, .v .nilIface])
abbrev RM (B : List IObj) (rs : RS) (R : List IObj) : List IObj := B ++ (.map (encM rs.kn) rs.kc :: .cells (cellsR B.length rs) :: R)
def SimR (f : FuncId) (args : List IV) (rs : RS) (r : IV) (rs' : RS) : Prop := ∀ (B R : List IObj) (rw_ : List Nat), Sim f (.ptr (B.length + 1) 0 :: args) ⟨RM B rs R, rw_⟩ (fun x m' => x = r ∧ m' = ⟨RM B rs' R, rw_⟩)
set_option maxRecDepth 100000 in
set_option maxHeartbeats 4000000 in
theorem rcell_sim (m : Mem) (o : Nat) (ho : o < m.objs.length) (i : Int) : Sim 100 [.ptr o 0, ii i] m (fun r m' => r = (if i < 0 ∨ 60 ≤ i then .v (.pointer none) else .ptr o (1 + i.toNat)) ∧ m' = m) := by
  refine Sim.ofS 17 [.tmp 4] Try.func100 rfl rfl rfl (by simp) fun wr => ?_
  simp only [go_sem, Nat.reduceEqDiff, Nat.reduceBEq, Int.reduceToNat, Int.reduceLT, Int.reduceLE, Int.reduceEq, Nat.reduceLeDiff, Nat.reduceLT, Nat.reduceMul, Nat.reduceAdd, String.reduceEq]
  by_cases h0 : i < 0
  · refine TS.of [] fun Q hQ => ?_
    simp only [go_sem, Nat.reduceEqDiff, Nat.reduceBEq, Int.reduceToNat, Int.reduceLT, Int.reduceLE, Int.reduceEq, Nat.reduceLeDiff, Nat.reduceLT, Nat.reduceMul, Nat.reduceAdd, String.reduceEq, h0]
    refine hQ .ret _ ?_; exact post_ret _ _ _ rfl rfl (DropW.refl _) ⟨by rw [if_pos (.inl h0)]; rfl, rfl⟩
  · by_cases h1 : 60 ≤ i
    · refine TS.of [] fun Q hQ => ?_
      simp only [go_sem, Nat.reduceEqDiff, Nat.reduceBEq, Int.reduceToNat, Int.reduceLT, Int.reduceLE, Int.reduceEq, Nat.reduceLeDiff, Nat.reduceLT, Nat.reduceMul, Nat.reduceAdd, String.reduceEq, h0, h1]
      refine hQ .ret _ ?_; exact post_ret _ _ _ rfl rfl (DropW.refl _) ⟨by rw [if_pos (.inr h1)]; rfl, rfl⟩
    · refine TS.of [] fun Q hQ => ?_
      simp only [go_sem, Nat.reduceEqDiff, Nat.reduceBEq, Int.reduceToNat, Int.reduceLT, Int.reduceLE, Int.reduceEq, Nat.reduceLeDiff, Nat.reduceLT, Nat.reduceMul, Nat.reduceAdd, String.reduceEq, h0, h1, show (0 : Int) ≤ i by omega, show i < 60 by omega]
      refine hQ .ret _ ?_; refine post_ret _ _ (.ptr o (1 + i.toNat)) ?_ ?_ (DropW.refl _) ⟨by rw [if_neg (by omega)], rfl⟩
      · simp only [go_sem, Nat.reduceEqDiff, Nat.reduceBEq, Int.reduceToNat, Int.reduceLT, Int.reduceLE, Int.reduceEq, Nat.reduceLeDiff, Nat.reduceLT, Nat.reduceMul, Nat.reduceAdd, String.reduceEq]
      · simp [IV.np, ho]
end Go.Proofs.Ytphjldhdnmoolaa.A
/- The walks of some functions over the abstract machine. -/
namespace Go.Proofs.Ytphjldhdnmoolaa.A
open Go
/-! eval's value -/
theorem valEs_at {rs : RS} : ∀ (l : List Expr) (A : List Int), valEs l rs = some A → A.length = l.length ∧ ∀ (k : Nat) (x : Expr), l[k]? = some x → ∃ v, A[k]? = some v ∧ valE x rs = some v
  | [], A, h => by simp only [valEs, Option.some.injEq] at h; subst h; exact ⟨rfl, fun k x hx => by simp at hx⟩
  | e :: l, A, h => by
    simp only [valEs, Option.bind_eq_some_iff, Option.map_eq_some_iff] at h
    obtain ⟨x, hx, y, hy, rfl⟩ := h
    obtain ⟨h1, h2⟩ := valEs_at l y hy
    refine ⟨by simp [h1], fun k z hz => ?_⟩
    cases k with
    | zero => simp at hz; subst hz; exact ⟨x, rfl, hx⟩
    | succ k => simp at hz; simpa using h2 k z hz
abbrev slA (r0 : Nat) (A : List Int) : IV := .sl (accK r0 3 A.length) A.length (A.map (IV.v <| .int .i64 ·))
theorem drop61 {cs : List Int} (h : cs.length = 60) (t : List IV) : (cs.map (IV.v <| .int .i64 ·) ++ t).drop 60 = t := by rw [List.drop_append_of_le_length (by simp [h])]; simp [List.drop_eq_nil_of_le, h]
theorem drop62 {cs : List Int} (h : cs.length = 60) (a : IV) (t : List IV) : (cs.map (IV.v <| .int .i64 ·) ++ a :: t).drop 61 = t := by
  have := drop61 h (a :: t)
  rw [show (61 : Nat) = 60 + 1 from rfl, ← List.drop_drop, this]; rfl
theorem take61 {cs : List Int} (h : cs.length = 60) (t : List IV) : (cs.map (IV.v <| .int .i64 ·) ++ t).take 60 = cs.map (IV.v <| .int .i64 ·) := by rw [List.take_append_of_le_length (by simp [h]), List.take_of_length_le (by simp [h])]
theorem np_ints (no nr : Nat) : ∀ l : List Int, npL no nr (l.map (IV.v <| .int .i64 ·)) = true
  | [] => rfl
  | a :: l => by rw [List.map_cons, npL, np_ints no nr l]; rfl
def VC (N : Nat) : Prop := ∀ (e : Expr) (rs : RS) (v : Int), szE e ≤ N → rs.cs.length = 60 → valE e rs = some v → ∀ (B R : List IObj) (rw_ : List Nat), Sim 61 [.ptr (B.length + 1) 0, .agg (encE e)] ⟨RM B rs R, rw_⟩ (fun x m' => x = ii v ∧ m' = ⟨RM B rs R, rw_⟩)
def rowsA (r : List Nat) (n : Nat) : List Nat := if n = 0 then r else r ++ [n]
theorem app_rowsA (r : List Nat) (e : TypeId) (n k : Nat) (hk : k ≠ 0) : app (rowsA r n) e n k (accK r.length e n) = some (accK r.length e (n + k), rowsA r (n + k)) := acc_app ⟨[], r⟩ e n k hk
theorem rowsA_0 (r : List Nat) : rowsA r 0 = r := rfl
theorem rowsA_le (r : List Nat) (n k : Nat) : (rowsA r n).length ≤ (rowsA r (n + k)).length := accM_len ⟨[], r⟩ n k
theorem rowsA_app (r : List Nat) (n : Nat) : ∃ x, rowsA r n = r ++ x := ⟨if n = 0 then [] else [n], by unfold rowsA; split <;> simp⟩
theorem accK_rowsA {r : List Nat} {n : Nat} {e : TypeId} : (accK r.length e n).np (rowsA r n).length = true := accK_np ⟨[], r⟩ e n
theorem DropW.rowsA {objs : List IObj} (r : List Nat) (n : Nat) : DropW ⟨objs, r⟩ objs.length r.length ⟨objs, rowsA r n⟩ ⟨objs, r⟩ := by
  obtain ⟨x, hx⟩ := rowsA_app r n
  exact DropW.rows_ (m := ⟨objs, r⟩) x rfl hx
theorem DropW.accR (m : Mem) (n : Nat) : DropW m m.objs.length m.rows.length ⟨m.objs, (accM m n).rows⟩ m := by
  refine DropW.rows_ (if n = 0 then [] else [n]) rfl ?_
  unfold accM; dsimp only; split <;> simp
set_option maxRecDepth 100000 in
set_option maxHeartbeats 4000000 in
theorem value_step {N : Nat} (hNb : N < 900000) (ih : ∀ M, M < N → VC M) : VC N := by
  intro e rs v hN h60 hv B R rw_
  have hsz := szE_eq e
  have hll := szs_len e.a
  rw [show e = .mk e.k e.n e.s e.a e.p by cases e; rfl, valE, Option.bind_eq_some_iff] at hv
  obtain ⟨A, hA, hv⟩ := hv
  obtain ⟨hAl, hAt⟩ := valEs_at _ _ hA
  have d61 := fun t => drop61 h60 t
  have d62 := fun a t => drop62 h60 a t
  refine Sim.ofS 146 [.tmp 4] Try.func61 rfl rfl rfl (by simp) fun wr => ?_
  simp only [go_sem, Nat.reduceEqDiff, Nat.reduceBEq, Int.reduceToNat, Int.reduceLT, Int.reduceLE, Int.reduceEq, Nat.reduceLeDiff, Nat.reduceLT, Nat.reduceMul, Nat.reduceAdd, String.reduceEq]
  refine TS.seq (TS.of [3] fun Q hQ => ?_)
  simp only [go_sem, Nat.reduceEqDiff, Nat.reduceBEq, Int.reduceToNat, Int.reduceLT, Int.reduceLE, Int.reduceEq, Nat.reduceLeDiff, Nat.reduceLT, Nat.reduceMul, Nat.reduceAdd, String.reduceEq, encE_eq]
  refine hQ .normal _ ?_; clear hQ Q
  refine TS.seq (TS.of [3] fun Q hQ => ?_)
  simp only [go_sem, Nat.reduceEqDiff, Nat.reduceBEq, Int.reduceToNat, Int.reduceLT, Int.reduceLE, Int.reduceEq, Nat.reduceLeDiff, Nat.reduceLT, Nat.reduceMul, Nat.reduceAdd, String.reduceEq, d61, d62]
  refine hQ .normal _ ?_; clear hQ Q
  refine TS.seq (TS.of [3] fun Q hQ => ?_)
  simp only [go_sem, Nat.reduceEqDiff, Nat.reduceBEq, Int.reduceToNat, Int.reduceLT, Int.reduceLE, Int.reduceEq, Nat.reduceLeDiff, Nat.reduceLT, Nat.reduceMul, Nat.reduceAdd, String.reduceEq]
  refine hQ .normal _ ?_; clear hQ Q
  refine TS.seq (TS.mono (Q := fun e1 s => e1 = .normal ∧ (s.t 0 = .ptr (B.length + 1) 0 ∧ s.t 3 = .ref (encE e) ∧ s.t 5 = slA rw_.length A) ∧ s.m = ⟨RM B rs R, rowsA rw_ A.length⟩) ?_ ?_)
  · refine TS.seq (TS.of [3] fun Q hQ => ?_)
    simp only [go_sem, Nat.reduceEqDiff, Nat.reduceBEq, Int.reduceToNat, Int.reduceLT, Int.reduceLE, Int.reduceEq, Nat.reduceLeDiff, Nat.reduceLT, Nat.reduceMul, Nat.reduceAdd, String.reduceEq, encE_eq]
    refine hQ .normal _ ?_; clear hQ Q
    refine TS.block (TS.loop (α := Nat) (fun k => [(0, .ptr (B.length + 1) 0), (3, .ref (encE e)), (5, slA rw_.length (A.take k)), (16, slE e.a), (17, ii e.a.length), (18, ii k)]) (fun k => ⟨RM B rs R, rowsA rw_ k⟩) (fun k => k ≤ e.a.length) (fun k => e.a.length - k) 0 (by simp) ⟨by simp [Has, upd_apply, argsT, encE_eq, accK], rfl, by omega⟩ ?_)
    rintro k st hH hm hk
    simp only [Has, List.mem_cons, List.not_mem_nil, or_false, forall_eq_or_imp, forall_eq] at hH; obtain ⟨i0, i3, i5, i16, i17, i18⟩ := hH
    by_cases hlt : k < e.a.length
    · obtain ⟨x, hx⟩ : ∃ x, e.a[k]? = some x := ⟨_, List.getElem?_eq_getElem hlt⟩
      obtain ⟨vx, hvx, hval⟩ := hAt k x hx
      have hat := encEs_at hx
      have hlt5 : k * 5 < (encEs e.a).length := by rw [encEs_length]; omega
      have hw := wrap_succ hlt (by omega)
      have hszx := szE_at hx
      have hsub := ih (szE x) (by omega) x rs vx (Nat.le_refl _) h60 hval B (R ++ [.cells (encE x)]) (rowsA rw_ k)
      rw [encE_eq] at hsub
      have htk : (A.take k).length = k := by rw [List.length_take]; omega
      have htk1 : A.take (k + 1) = A.take k ++ [vx] := by rw [List.take_add_one, hvx]; rfl
      have happ := app_rowsA rw_ 3 k 1 (by decide)
      have hlen : ((A.take k).map (IV.v <| .int .i64 ·)).length = k := by rw [List.length_map, htk]
      have hbound : (k + 1) * 8 ≤ 140737488355328 := by omega
      rw [slA, htk] at i5
      refine TS.of [3] fun Q hQ => ?_
      simp only [go_sem, Nat.reduceEqDiff, Nat.reduceBEq, Int.reduceToNat, Int.reduceLT, Int.reduceLE, Int.reduceEq, Nat.reduceLeDiff, Nat.reduceLT, Nat.reduceMul, Nat.reduceAdd, String.reduceEq, i0, i3, i5, i16, i17, i18, hm, hlt, hat, hlt5]
      refine cal_eq hsub ?_
      simp only [go_sem, Nat.reduceEqDiff, Nat.reduceBEq, Int.reduceToNat, Int.reduceLT, Int.reduceLE, Int.reduceEq, Nat.reduceLeDiff, Nat.reduceLT, Nat.reduceMul, Nat.reduceAdd, String.reduceEq, i0, i3, i5, i16, i17, i18, hw, happ, hlen, hbound]
      refine hQ .normal _ ?_; clear hQ Q
      refine ⟨(RM B rs R).length, (rowsA rw_ (k + 1)).length, k + 1, ?_, ?_, hlt, by omega⟩
      · exact DropW.acc (m0 := ⟨RM B rs R, rowsA rw_ k⟩) (m1 := ⟨RM B rs R, rowsA rw_ (k + 1)⟩) [.cells (encE x)] (by simp [encE_eq]) rfl rfl (rowsA_le rw_ k 1)
      · simp [upd_apply, i0, i3, i16, i17, slA, htk1, htk, IV.np, np_sh, npEs, IV.sh, npL_app, np_ints, npL, accK_rowsA, npE, encE_eq]
        rw [← List.map_take, npL_app]
        all_goals first | exact np_ints _ _ _ | rfl
    · refine TS.of [3] fun Q hQ => ?_
      simp only [go_sem, Nat.reduceEqDiff, Nat.reduceBEq, Int.reduceToNat, Int.reduceLT, Int.reduceLE, Int.reduceEq, Nat.reduceLeDiff, Nat.reduceLT, Nat.reduceMul, Nat.reduceAdd, String.reduceEq, i0, i3, i5, i16, i17, i18, hm, hlt]
      refine hQ (.exit 0) _ ?_; clear hQ Q
      obtain rfl : k = e.a.length := by omega
      rw [List.take_of_length_le (by omega)] at i5
      exact ⟨rfl, by simp [upd_apply, i0, i3, i5], by rw [hAl]⟩
  rintro e1 s2 ⟨rfl, ⟨i0, i3, i5⟩, hm2⟩
  have hend := DropW.rowsA (objs := RM B rs R) rw_ A.length
  refine TS.seq (TS.of [3] fun Q hQ => ?_)
  simp only [go_sem, Nat.reduceEqDiff, Nat.reduceBEq, Int.reduceToNat, Int.reduceLT, Int.reduceLE, Int.reduceEq, Nat.reduceLeDiff, Nat.reduceLT, Nat.reduceMul, Nat.reduceAdd, String.reduceEq, i0, i3, i5, hm2]
  refine hQ .normal _ ?_; clear hQ Q
  refine TS.seq (TS.of [3] fun Q hQ => ?_)
  simp only [go_sem, Nat.reduceEqDiff, Nat.reduceBEq, Int.reduceToNat, Int.reduceLT, Int.reduceLE, Int.reduceEq, Nat.reduceLeDiff, Nat.reduceLT, Nat.reduceMul, Nat.reduceAdd, String.reduceEq]
  refine hQ .normal _ ?_; clear hQ Q
  unfold val1 at hv
  by_cases c1 : e.k = 1 ∧ A = []
  · rw [if_pos c1] at hv
    obtain ⟨k1, rfl⟩ := c1
    simp only [Option.some.injEq] at hv
    subst hv
    refine TS.of [3] fun Q hQ => ?_
    simp only [go_sem, Nat.reduceEqDiff, Nat.reduceBEq, Int.reduceToNat, Int.reduceLT, Int.reduceLE, Int.reduceEq, Nat.reduceLeDiff, Nat.reduceLT, Nat.reduceMul, Nat.reduceAdd, String.reduceEq, encE_eq, k1, i0, i3, i5]
    refine hQ .ret _ ?_; clear hQ Q; refine post_ret _ _ (ii e.n) ?_ rfl hend ⟨rfl, rfl⟩
    simp only [go_sem, Nat.reduceEqDiff, Nat.reduceBEq, Int.reduceToNat, Int.reduceLT, Int.reduceLE, Int.reduceEq, Nat.reduceLeDiff, Nat.reduceLT, Nat.reduceMul, Nat.reduceAdd, String.reduceEq]
  rw [if_neg c1] at hv
  by_cases c2 : e.k = 2 ∧ A = []
  · rw [if_pos c2] at hv
    obtain ⟨k2, rfl⟩ := c2
    by_cases t1 : e.s = qTrue ∨ e.s = qFalse
    · rw [if_pos t1] at hv
      simp only [Option.some.injEq] at hv
      by_cases t2 : e.s = ⟨#[116, 114, 117, 101]⟩
      · have hv1 : v = 1 := by rw [← hv, show decide (e.s = qTrue) = true from decide_eq_true t2]; rfl
        subst hv1
        cases hg : getM e.s rs.kn
        all_goals refine TS.of [3] fun Q hQ => ?_
        all_goals (simp only [go_sem, Nat.reduceEqDiff, Nat.reduceBEq, Int.reduceToNat, Int.reduceLT, Int.reduceLE, Int.reduceEq, Nat.reduceLeDiff, Nat.reduceLT, Nat.reduceMul, Nat.reduceAdd, String.reduceEq, encE_eq, k2, i0, i3, i5])
        all_goals refine drn_of ⟨[], [], []⟩ [0, 1, 3, 7, 0, 16, 63, 127, 255, 255, 511, 2047] (by kernel_rfl) ?_
        all_goals (simp only [go_sem, Nat.reduceEqDiff, Nat.reduceBEq, Int.reduceToNat, Int.reduceLT, Int.reduceLE, Int.reduceEq, Nat.reduceLeDiff, Nat.reduceLT, Nat.reduceMul, Nat.reduceAdd, String.reduceEq, encE_eq, k2, i0, i3, i5, d61, d62, Mem.map_, mlook_enc, mval_enc, some_enc, t2])
        all_goals refine cal_eq (bit_sim _ _) ?_
        all_goals simp only [go_sem, Nat.reduceEqDiff, Nat.reduceBEq, Int.reduceToNat, Int.reduceLT, Int.reduceLE, Int.reduceEq, Nat.reduceLeDiff, Nat.reduceLT, Nat.reduceMul, Nat.reduceAdd, String.reduceEq]
        all_goals (refine hQ .ret _ ?_; clear hQ Q; refine post_ret _ _ (ii 1) ?_ rfl hend ⟨rfl, rfl⟩)
        all_goals simp only [go_sem, Nat.reduceEqDiff, Nat.reduceBEq, Int.reduceToNat, Int.reduceLT, Int.reduceLE, Int.reduceEq, Nat.reduceLeDiff, Nat.reduceLT, Nat.reduceMul, Nat.reduceAdd, String.reduceEq]
        all_goals rfl
      · have t3 : e.s = ⟨#[102, 97, 108, 115, 101]⟩ := by rcases t1 with h | h; exact absurd h t2; exact h
        have t4 : ¬ ((⟨#[102, 97, 108, 115, 101]⟩ : ByteArray) = ⟨#[116, 114, 117, 101]⟩) := by decide
        have hv1 : v = 0 := by rw [← hv, show decide (e.s = qTrue) = false from decide_eq_false t2]; rfl
        subst hv1
        all_goals refine TS.of [3] fun Q hQ => ?_
        all_goals (simp only [go_sem, Nat.reduceEqDiff, Nat.reduceBEq, Int.reduceToNat, Int.reduceLT, Int.reduceLE, Int.reduceEq, Nat.reduceLeDiff, Nat.reduceLT, Nat.reduceMul, Nat.reduceAdd, String.reduceEq, encE_eq, k2, i0, i3, i5])
        all_goals refine drn_of ⟨[], [], []⟩ [0, 1, 3, 7, 0, 16, 63, 127, 255, 255, 511, 2047] (by kernel_rfl) ?_
        all_goals (simp only [go_sem, Nat.reduceEqDiff, Nat.reduceBEq, Int.reduceToNat, Int.reduceLT, Int.reduceLE, Int.reduceEq, Nat.reduceLeDiff, Nat.reduceLT, Nat.reduceMul, Nat.reduceAdd, String.reduceEq, encE_eq, k2, i0, i3, i5, d61, d62, Mem.map_, mlook_enc, mval_enc, some_enc, t3, t4])
        all_goals refine cal_eq (bit_sim _ _) ?_
        all_goals simp only [go_sem, Nat.reduceEqDiff, Nat.reduceBEq, Int.reduceToNat, Int.reduceLT, Int.reduceLE, Int.reduceEq, Nat.reduceLeDiff, Nat.reduceLT, Nat.reduceMul, Nat.reduceAdd, String.reduceEq]
        all_goals (refine hQ .ret _ ?_; clear hQ Q; refine post_ret _ _ (ii 0) ?_ rfl hend ⟨rfl, rfl⟩)
        all_goals simp only [go_sem, Nat.reduceEqDiff, Nat.reduceBEq, Int.reduceToNat, Int.reduceLT, Int.reduceLE, Int.reduceEq, Nat.reduceLeDiff, Nat.reduceLT, Nat.reduceMul, Nat.reduceAdd, String.reduceEq]
        all_goals rfl
    · rw [if_neg t1] at hv
      have t2 : ¬ e.s = ⟨#[116, 114, 117, 101]⟩ := fun h => t1 (.inl h)
      have t3 : ¬ e.s = ⟨#[102, 97, 108, 115, 101]⟩ := fun h => t1 (.inr h)
      refine TS.of [3] fun Q hQ => ?_
      simp only [go_sem, Nat.reduceEqDiff, Nat.reduceBEq, Int.reduceToNat, Int.reduceLT, Int.reduceLE, Int.reduceEq, Nat.reduceLeDiff, Nat.reduceLT, Nat.reduceMul, Nat.reduceAdd, String.reduceEq, encE_eq, k2, i0, i3, i5]
      refine drn_of ⟨[], [], []⟩ [0, 1, 3, 7, 0, 16, 63, 127, 255, 255, 511, 2047] (by kernel_rfl) ?_
      simp only [go_sem, Nat.reduceEqDiff, Nat.reduceBEq, Int.reduceToNat, Int.reduceLT, Int.reduceLE, Int.reduceEq, Nat.reduceLeDiff, Nat.reduceLT, Nat.reduceMul, Nat.reduceAdd, String.reduceEq, encE_eq, k2, i0, i3, i5, d61, d62, Mem.map_, mlook_enc, mval_enc, some_enc, t2, t3, hv, Option.getD_some, Option.isSome_some]
      refine hQ .ret _ ?_; clear hQ Q; refine post_ret _ _ (ii v) ?_ rfl hend ⟨rfl, rfl⟩
      simp only [go_sem, Nat.reduceEqDiff, Nat.reduceBEq, Int.reduceToNat, Int.reduceLT, Int.reduceLE, Int.reduceEq, Nat.reduceLeDiff, Nat.reduceLT, Nat.reduceMul, Nat.reduceAdd, String.reduceEq]
  rw [if_neg c2] at hv
  split at hv
  · rename_i a k3
    simp only [Option.some.injEq] at hv
    subst hv
    refine TS.of [3] fun Q hQ => ?_
    simp only [go_sem, Nat.reduceEqDiff, Nat.reduceBEq, Int.reduceToNat, Int.reduceLT, Int.reduceLE, Int.reduceEq, Nat.reduceLeDiff, Nat.reduceLT, Nat.reduceMul, Nat.reduceAdd, String.reduceEq, encE_eq, k3, i0, i3, i5]
    refine drn_of ⟨[], [], []⟩ [0, 1, 3, 7, 0, 16, 48, 127, 255, 511, 511, 1023] (by kernel_rfl) ?_
    have h58 : 58 ≤ (rs.cs.map (IV.v <| .int .i64 ·)).length := by rw [List.length_map]; omega
    simp only [go_sem, Nat.reduceEqDiff, Nat.reduceBEq, Int.reduceToNat, Int.reduceLT, Int.reduceLE, Int.reduceEq, Nat.reduceLeDiff, Nat.reduceLT, Nat.reduceMul, Nat.reduceAdd, String.reduceEq, encE_eq, k3, i0, i3, i5, d61, d62, take61 h60, h58, ints_sh]
    refine cald_eq (get_sim _ rs.lsn rs.cs h60 a) ?_
    simp only [go_sem, Nat.reduceEqDiff, Nat.reduceBEq, Int.reduceToNat, Int.reduceLT, Int.reduceLE, Int.reduceEq, Nat.reduceLeDiff, Nat.reduceLT, Nat.reduceMul, Nat.reduceAdd, String.reduceEq]
    refine hQ .ret _ ?_; clear hQ Q; refine post_ret _ _ (ii (getC rs.cs a)) ?_ rfl hend ⟨rfl, rfl⟩
    simp only [go_sem, Nat.reduceEqDiff, Nat.reduceBEq, Int.reduceToNat, Int.reduceLT, Int.reduceLE, Int.reduceEq, Nat.reduceLeDiff, Nat.reduceLT, Nat.reduceMul, Nat.reduceAdd, String.reduceEq]
  · rename_i a k4
    simp only [Option.some.injEq] at hv
    subst hv
    refine TS.of [3] fun Q hQ => ?_
    simp only [go_sem, Nat.reduceEqDiff, Nat.reduceBEq, Int.reduceToNat, Int.reduceLT, Int.reduceLE, Int.reduceEq, Nat.reduceLeDiff, Nat.reduceLT, Nat.reduceMul, Nat.reduceAdd, String.reduceEq, encE_eq, k4, i0, i3, i5]
    refine cal_eq (bit_sim _ _) ?_
    simp only [go_sem, Nat.reduceEqDiff, Nat.reduceBEq, Int.reduceToNat, Int.reduceLT, Int.reduceLE, Int.reduceEq, Nat.reduceLeDiff, Nat.reduceLT, Nat.reduceMul, Nat.reduceAdd, String.reduceEq]
    refine hQ .ret _ ?_; clear hQ Q; refine post_ret _ _ (ii (bit (decide (a = 0)))) ?_ rfl hend ⟨rfl, rfl⟩
    simp only [go_sem, Nat.reduceEqDiff, Nat.reduceBEq, Int.reduceToNat, Int.reduceLT, Int.reduceLE, Int.reduceEq, Nat.reduceLeDiff, Nat.reduceLT, Nat.reduceMul, Nat.reduceAdd, String.reduceEq]
  · rename_i a k5
    simp only [Option.some.injEq] at hv
    subst hv
    refine TS.of [3] fun Q hQ => ?_
    simp only [go_sem, Nat.reduceEqDiff, Nat.reduceBEq, Int.reduceToNat, Int.reduceLT, Int.reduceLE, Int.reduceEq, Nat.reduceLeDiff, Nat.reduceLT, Nat.reduceMul, Nat.reduceAdd, String.reduceEq, encE_eq, k5, i0, i3, i5]
    refine hQ .ret _ ?_; clear hQ Q; refine post_ret _ _ (ii (w64 (0 - a))) ?_ rfl hend ⟨rfl, rfl⟩
    simp only [go_sem, Nat.reduceEqDiff, Nat.reduceBEq, Int.reduceToNat, Int.reduceLT, Int.reduceLE, Int.reduceEq, Nat.reduceLeDiff, Nat.reduceLT, Nat.reduceMul, Nat.reduceAdd, String.reduceEq]
  · rename_i a b k6
    have ho := oper_ok e.s a b v hv
    have hsub := fun m => operate_sim m e.s a b
    rw [ho] at hsub
    refine TS.of [3] fun Q hQ => ?_
    simp only [go_sem, Nat.reduceEqDiff, Nat.reduceBEq, Int.reduceToNat, Int.reduceLT, Int.reduceLE, Int.reduceEq, Nat.reduceLeDiff, Nat.reduceLT, Nat.reduceMul, Nat.reduceAdd, String.reduceEq, encE_eq, k6, i0, i3, i5]
    refine drn_of ⟨[], [], []⟩ [0, 1, 0, 4, 12, 0, 32, 96, 255, 511, 1023, 1023, 2047, 8191] (by kernel_rfl) ?_
    simp only [go_sem, Nat.reduceEqDiff, Nat.reduceBEq, Int.reduceToNat, Int.reduceLT, Int.reduceLE, Int.reduceEq, Nat.reduceLeDiff, Nat.reduceLT, Nat.reduceMul, Nat.reduceAdd, String.reduceEq, encE_eq, k6, i0, i3, i5]
    refine cald_eq (hsub _) ?_
    simp only [go_sem, Nat.reduceEqDiff, Nat.reduceBEq, Int.reduceToNat, Int.reduceLT, Int.reduceLE, Int.reduceEq, Nat.reduceLeDiff, Nat.reduceLT, Nat.reduceMul, Nat.reduceAdd, String.reduceEq]
    refine hQ .ret _ ?_; clear hQ Q; refine post_ret _ _ (ii v) ?_ rfl hend ⟨rfl, rfl⟩
    simp only [go_sem, Nat.reduceEqDiff, Nat.reduceBEq, Int.reduceToNat, Int.reduceLT, Int.reduceLE, Int.reduceEq, Nat.reduceLeDiff, Nat.reduceLT, Nat.reduceMul, Nat.reduceAdd, String.reduceEq]
  · cases hv
theorem value_all : ∀ N, N < 900000 → VC N := by
  intro N
  induction N using Nat.strongRecOn with
  | ind N ih => intro hN; exact value_step hN fun M h => ih M h (by omega)
theorem value_sim {e : Expr} {rs : RS} {v : Int} (h : szE e < 900000) (h60 : rs.cs.length = 60) (hv : valE e rs = some v) (B R : List IObj) (rw_ : List Nat) : Sim 61 [.ptr (B.length + 1) 0, .agg (encE e)] ⟨RM B rs R, rw_⟩ (fun x m' => x = ii v ∧ m' = ⟨RM B rs R, rw_⟩) := value_all _ h e rs v (Nat.le_refl _) h60 hv B R rw_
end Go.Proofs.Ytphjldhdnmoolaa.A
/- The walks of some functions over the abstract machine. -/
namespace Go.Proofs.Ytphjldhdnmoolaa.A
open Go
/-! eval's statements -/
def RS.put (rs : RS) (s : Bytes) (v : Int) : RS := { rs with kn := (putM s v rs.kn rs.kc).1, kc := (putM s v rs.kn rs.kc).2 }
def chg (k a b : Int) (rs : RS) : RS :=
  if a < 0 ∨ 60 ≤ a then rs
  else if k = 2 then { rs with cs := rs.cs.set a.toNat b }
  else if k = 3 then { rs with cs := rs.cs.set a.toNat (w64 (getC rs.cs a + b)) }
  else if k = 4 then { rs with cs := rs.cs.set a.toNat (w64 (getC rs.cs a - b)) }
  else if b < 0 ∨ 60 ≤ b then rs
  else { rs with cs := (rs.cs.set a.toNat (getC rs.cs b)).set b.toNat (getC rs.cs a) }
theorem chg_len (k a b : Int) (rs : RS) : (chg k a b rs).cs.length = rs.cs.length := by
  unfold chg; (repeat' split) <;> simp
theorem DropW.rk (B : List IObj) (rs rs' : RS) (R X : List IObj) (R0 R1 R2 : List Nat) (h3 : R0.length ≤ R1.length) (h4 : R2.take R1.length = R1) : DropW ⟨RM B rs R, R0⟩ (B.length + (R.length + 2)) R1.length ⟨RM B rs' (R ++ X), R2⟩ ⟨RM B rs' R, R1⟩ := by
  refine ⟨?_, h4.symm, by simp, h3, fun o x hx hl => ?_⟩
  · simp only [RM]
    rw [List.take_append, List.take_of_length_le (by omega)]
    congr 1
    rw [show B.length + (R.length + 2) - B.length = R.length + 2 by omega]
    simp
  · simp only [RM] at hx
    by_cases h1 : o < B.length
    · left; rw [List.getElem?_append_left h1] at hx; simp only [RM]; rw [List.getElem?_append_left h1]; exact hx
    · rw [List.getElem?_append_right (by omega)] at hx
      generalize hk : o - B.length = k at hx
      match k, hx with
      | 0, hx => right; simp at hx; subst hx; rfl
      | 1, hx =>
        right; simp at hx; subst hx
        simp only [IObj.np, cellsR, npL, IV.np, Bool.true_and]
        rw [npL_app]
        all_goals first | exact np_ints _ _ _ | (simp [npL, IV.np]; done)
      | k + 2, hx =>
        left
        simp only [RM]
        rw [List.getElem?_append_right (by omega), hk]
        simp only [List.getElem?_cons_succ] at hx ⊢
        rw [List.getElem?_append_left (by omega)] at hx
        exact hx
theorem set_cells {cs : List Int} {i : Int} {v : Int} (h0 : 0 ≤ i) (h1 : i < 60) (hl : cs.length = 60) (a : IV) (t : List IV) : splice (a :: (cs.map (IV.v <| .int .i64 ·) ++ t)) (1 + i.toNat) [ii v] = a :: ((cs.set i.toNat v).map (IV.v <| .int .i64 ·) ++ t) := by
  have hi : i.toNat < (cs.map (IV.v <| .int .i64 ·)).length := by rw [List.length_map]; omega
  unfold splice
  rw [Nat.add_comm 1, List.take_succ_cons, List.length_singleton, List.drop_succ_cons, List.take_append_of_le_length (by omega), List.drop_append_of_le_length (by omega), List.map_set, List.set_eq_take_append_cons_drop, if_pos hi]
  simp
theorem set_cells' {cs : List Int} {i : Int} {v : Int} (h0 : 0 ≤ i) (h1 : i < 60) (hl : cs.length = 60) (a : IV) (t : List IV) : (a :: (cs.map (IV.v <| .int .i64 ·) ++ t)).take (1 + i.toNat) ++ ii v :: (cs.map (IV.v <| .int .i64 ·) ++ t).drop (1 + i.toNat) = a :: ((cs.set i.toNat v).map (IV.v <| .int .i64 ·) ++ t) := by
  rw [← set_cells h0 h1 hl a t]
  unfold splice
  rw [Nat.add_comm 1 i.toNat, List.length_singleton, List.drop_succ_cons, List.append_assoc]; rfl
theorem drop_cells' {cs : List Int} {i : Int} (h0 : 0 ≤ i) (h1 : i < 60) (hl : cs.length = 60) (a : IV) (t : List IV) : (a :: (cs.map (IV.v <| .int .i64 ·) ++ t)).drop (1 + i.toNat) = ii (getC cs i) :: ((cs.map (IV.v <| .int .i64 ·)) ++ t).drop (i.toNat + 1) := by
  rw [Nat.add_comm, List.drop_succ_cons, drop_cells h0 h1 hl t]
/-- Functions of a run that leave nothing. -/
def SimX (f : FuncId) (args : List IV) (rs rs' : RS) : Prop := ∀ (B R : List IObj) (rw_ : List Nat), Sim f (.ptr (B.length + 1) 0 :: args) ⟨RM B rs R, rw_⟩ (fun x m' => x = .tup [] ∧ m' = ⟨RM B rs' R, rw_⟩)
set_option maxRecDepth 100000 in
set_option maxHeartbeats 4000000 in
theorem change_sim {s : Stmt} {rs : RS} {x0 x1 : Expr} {l : List Expr} {a b : Int} (hx : s.x = x0 :: x1 :: l) (hsz : szT s < 900000) (h60 : rs.cs.length = 60) (ha : valE x0 rs = some a) (hb : valE x1 rs = some b) : SimX 88 [.agg (encT s)] rs (chg s.k a b rs) := by
  intro B R rw_
  have hz := szT_eq s
  rw [hx, szs, szs] at hz
  have h1 := value_sim (e := x0) (rs := rs) (by omega) h60 ha B R rw_
  have h2 := value_sim (e := x1) (rs := rs) (by omega) h60 hb B R rw_
  rw [encE_eq] at h1 h2
  have h1' : ∀ m : Mem, m = ⟨RM B rs R, rw_⟩ → Sim 61 [.ptr (B.length + 1) 0, .agg [ii x0.k, ii x0.n, ss x0.s, slE x0.a, ii x0.p]] m (fun x m' => x = ii a ∧ m' = m) := fun m e => by rw [e]; exact h1
  have h2' : ∀ m : Mem, m = ⟨RM B rs R, rw_⟩ → Sim 61 [.ptr (B.length + 1) 0, .agg [ii x1.k, ii x1.n, ss x1.s, slE x1.a, ii x1.p]] m (fun x m' => x = ii b ∧ m' = m) := fun m e => by rw [e]; exact h2
  have hes : encEs (x0 :: x1 :: l) = [ii x0.k, ii x0.n, ss x0.s, slE x0.a, ii x0.p] ++ ([ii x1.k, ii x1.n, ss x1.s, slE x1.a, ii x1.p] ++ encEs l) := by rw [encEs, encEs, encE_eq, encE_eq]
  have n0 : (0 : Int) < ((l.length + 1 + 1 : Nat) : Int) := by omega
  have n1 : (1 : Int) < ((l.length + 1 + 1 : Nat) : Int) := by omega
  have n5 : 5 < (encEs l).length + 1 + 1 + 1 + 1 + 1 + 1 + 1 + 1 + 1 + 1 := by omega
  refine Sim.ofS 71 [] Try.func88 rfl rfl rfl (by simp) fun wr => ?_
  simp only [go_sem, Nat.reduceEqDiff, Nat.reduceBEq, Int.reduceToNat, Int.reduceLT, Int.reduceLE, Int.reduceEq, Nat.reduceLeDiff, Nat.reduceLT, Nat.reduceMul, Nat.reduceAdd, String.reduceEq]
  refine TS.seq (TS.of [3] fun Q hQ => ?_)
  simp only [go_sem, Nat.reduceEqDiff, Nat.reduceBEq, Int.reduceToNat, Int.reduceLT, Int.reduceLE, Int.reduceEq, Nat.reduceLeDiff, Nat.reduceLT, Nat.reduceMul, Nat.reduceAdd, String.reduceEq, encT_eq, hx]
  refine hQ .normal _ ?_; clear hQ Q
  refine TS.seq (TS.of [3] fun Q hQ => ?_)
  simp only [go_sem, Nat.reduceEqDiff, Nat.reduceBEq, Int.reduceToNat, Int.reduceLT, Int.reduceLE, Int.reduceEq, Nat.reduceLeDiff, Nat.reduceLT, Nat.reduceMul, Nat.reduceAdd, String.reduceEq, encT_eq, hx]
  refine drn_of ⟨[], [], []⟩ [0, 0, 2, 6, 14, 31, 0, 0, 128, 384, 896, 2047, 4095, 8191] (by kernel_rfl) ?_
  simp only [go_sem, Nat.reduceEqDiff, Nat.reduceBEq, Int.reduceToNat, Int.reduceLT, Int.reduceLE, Int.reduceEq, Nat.reduceLeDiff, Nat.reduceLT, Nat.reduceMul, Nat.reduceAdd, String.reduceEq, encT_eq, hx, hes, n0, n1, n5, Nat.zero_lt_succ]
  refine cald_eq (h1' _ rfl) ?_
  simp only [go_sem, Nat.reduceEqDiff, Nat.reduceBEq, Int.reduceToNat, Int.reduceLT, Int.reduceLE, Int.reduceEq, Nat.reduceLeDiff, Nat.reduceLT, Nat.reduceMul, Nat.reduceAdd, String.reduceEq, encT_eq, hx, hes, n0, n1, n5, Nat.zero_lt_succ]
  refine cald_eq (h2' _ rfl) ?_
  simp only [go_sem, Nat.reduceEqDiff, Nat.reduceBEq, Int.reduceToNat, Int.reduceLT, Int.reduceLE, Int.reduceEq, Nat.reduceLeDiff, Nat.reduceLT, Nat.reduceMul, Nat.reduceAdd, String.reduceEq]
  refine hQ .normal _ ?_; clear hQ Q
  have hlt : B.length + 1 < (⟨RM B rs R, rw_⟩ : Mem).objs.length := by simp
  have hc := fun i => rcell_sim ⟨RM B rs R, rw_⟩ (B.length + 1) hlt i
  have hd := DropW.rk B rs rs R [] rw_ rw_ rw_ (Nat.le_refl _) (by simp)
  rw [List.append_nil] at hd
  refine TS.seq (TS.of [3] fun Q hQ => ?_)
  simp only [go_sem, Nat.reduceEqDiff, Nat.reduceBEq, Int.reduceToNat, Int.reduceLT, Int.reduceLE, Int.reduceEq, Nat.reduceLeDiff, Nat.reduceLT, Nat.reduceMul, Nat.reduceAdd, String.reduceEq]
  refine cal_eq (hc a) ?_
  simp only [go_sem, Nat.reduceEqDiff, Nat.reduceBEq, Int.reduceToNat, Int.reduceLT, Int.reduceLE, Int.reduceEq, Nat.reduceLeDiff, Nat.reduceLT, Nat.reduceMul, Nat.reduceAdd, String.reduceEq]
  refine hQ .normal _ ?_; clear hQ Q
  by_cases g : a < 0 ∨ 60 ≤ a
  · rw [if_pos g]
    refine TS.of [3] fun Q hQ => ?_
    simp only [go_sem, Nat.reduceEqDiff, Nat.reduceBEq, Int.reduceToNat, Int.reduceLT, Int.reduceLE, Int.reduceEq, Nat.reduceLeDiff, Nat.reduceLT, Nat.reduceMul, Nat.reduceAdd, String.reduceEq]
    refine hQ .normal _ ?_
    exact post_end _ _ (.tup []) (by simp only [go_sem, Nat.reduceEqDiff, Nat.reduceBEq, Int.reduceToNat, Int.reduceLT, Int.reduceLE, Int.reduceEq, Nat.reduceLeDiff, Nat.reduceLT, Nat.reduceMul, Nat.reduceAdd, String.reduceEq]) rfl hd ⟨rfl, by rw [chg, if_pos g]⟩
  rw [if_neg g]
  have ha0 : 0 ≤ a := by omega
  have ha1 : a < 60 := by omega
  have hsp := fun v a1 t => set_cells' (v := v) ha0 ha1 h60 a1 t
  have hdc := fun a1 t => drop_cells' ha0 ha1 h60 a1 t
  have hfit : 1 + a.toNat ≤ (rs.cs.map (IV.v <| .int .i64 ·)).length + 2 := by rw [List.length_map]; omega
  have hD := fun rs' => DropW.rk B rs rs' R [] rw_ rw_ rw_ (Nat.le_refl _) (by simp)
  simp only [List.append_nil] at hD
  by_cases k2 : s.k = 2
  · refine TS.of [3] fun Q hQ => ?_
    simp only [go_sem, Nat.reduceEqDiff, Nat.reduceBEq, Int.reduceToNat, Int.reduceLT, Int.reduceLE, Int.reduceEq, Nat.reduceLeDiff, Nat.reduceLT, Nat.reduceMul, Nat.reduceAdd, String.reduceEq, encT_eq, k2, hfit, hsp]
    refine hQ .normal _ ?_
    exact post_end _ _ (.tup []) (by simp only [go_sem, Nat.reduceEqDiff, Nat.reduceBEq, Int.reduceToNat, Int.reduceLT, Int.reduceLE, Int.reduceEq, Nat.reduceLeDiff, Nat.reduceLT, Nat.reduceMul, Nat.reduceAdd, String.reduceEq]) rfl (hD { rs with cs := rs.cs.set a.toNat b }) ⟨rfl, by rw [chg, if_neg g, if_pos k2]⟩
  by_cases k3 : s.k = 3
  · refine TS.of [3] fun Q hQ => ?_
    simp only [go_sem, Nat.reduceEqDiff, Nat.reduceBEq, Int.reduceToNat, Int.reduceLT, Int.reduceLE, Int.reduceEq, Nat.reduceLeDiff, Nat.reduceLT, Nat.reduceMul, Nat.reduceAdd, String.reduceEq, encT_eq, k3, hfit, hsp, hdc]
    refine hQ .normal _ ?_
    exact post_end _ _ (.tup []) (by simp only [go_sem, Nat.reduceEqDiff, Nat.reduceBEq, Int.reduceToNat, Int.reduceLT, Int.reduceLE, Int.reduceEq, Nat.reduceLeDiff, Nat.reduceLT, Nat.reduceMul, Nat.reduceAdd, String.reduceEq]) rfl (hD { rs with cs := rs.cs.set a.toNat (w64 (getC rs.cs a + b)) }) ⟨rfl, by rw [chg, if_neg g, if_neg k2, if_pos k3]⟩
  by_cases k4 : s.k = 4
  · refine TS.of [3] fun Q hQ => ?_
    simp only [go_sem, Nat.reduceEqDiff, Nat.reduceBEq, Int.reduceToNat, Int.reduceLT, Int.reduceLE, Int.reduceEq, Nat.reduceLeDiff, Nat.reduceLT, Nat.reduceMul, Nat.reduceAdd, String.reduceEq, encT_eq, k4, hfit, hsp, hdc]
    refine hQ .normal _ ?_
    exact post_end _ _ (.tup []) (by simp only [go_sem, Nat.reduceEqDiff, Nat.reduceBEq, Int.reduceToNat, Int.reduceLT, Int.reduceLE, Int.reduceEq, Nat.reduceLeDiff, Nat.reduceLT, Nat.reduceMul, Nat.reduceAdd, String.reduceEq]) rfl (hD { rs with cs := rs.cs.set a.toNat (w64 (getC rs.cs a - b)) }) ⟨rfl, by rw [chg, if_neg g, if_neg k2, if_neg k3, if_pos k4]⟩
  by_cases g2 : b < 0 ∨ 60 ≤ b
  · have hcb := fun m : Mem => fun (e : m = ⟨RM B rs R, rw_⟩) => (e ▸ hc b : Sim 100 [.ptr (B.length + 1) 0, ii b] m _)
    refine TS.of [3] fun Q hQ => ?_
    simp only [go_sem, Nat.reduceEqDiff, Nat.reduceBEq, Int.reduceToNat, Int.reduceLT, Int.reduceLE, Int.reduceEq, Nat.reduceLeDiff, Nat.reduceLT, Nat.reduceMul, Nat.reduceAdd, String.reduceEq, encT_eq, k2, k3, k4]
    refine cal_eq (hc b) ?_
    rw [if_pos g2]
    simp only [go_sem, Nat.reduceEqDiff, Nat.reduceBEq, Int.reduceToNat, Int.reduceLT, Int.reduceLE, Int.reduceEq, Nat.reduceLeDiff, Nat.reduceLT, Nat.reduceMul, Nat.reduceAdd, String.reduceEq]
    refine hQ .normal _ ?_
    exact post_end _ _ (.tup []) (by simp only [go_sem, Nat.reduceEqDiff, Nat.reduceBEq, Int.reduceToNat, Int.reduceLT, Int.reduceLE, Int.reduceEq, Nat.reduceLeDiff, Nat.reduceLT, Nat.reduceMul, Nat.reduceAdd, String.reduceEq]) rfl (hD rs) ⟨rfl, by rw [chg, if_neg g, if_neg k2, if_neg k3, if_neg k4, if_pos g2]⟩
  have hb0 : 0 ≤ b := by omega
  have hb1 : b < 60 := by omega
  have hdb := fun a1 t => drop_cells' hb0 hb1 h60 a1 t
  have hc2 : ∀ m : Mem, m = ⟨RM B rs R, rw_⟩ → Sim 100 [.ptr (B.length + 1) 0, ii b] m (fun r m' => r = .ptr (B.length + 1) (1 + b.toNat) ∧ m' = m) := fun m e => by rw [e]; have := hc b; rw [if_neg g2] at this; exact this
  refine TS.of [3] fun Q hQ => ?_
  simp only [go_sem, Nat.reduceEqDiff, Nat.reduceBEq, Int.reduceToNat, Int.reduceLT, Int.reduceLE, Int.reduceEq, Nat.reduceLeDiff, Nat.reduceLT, Nat.reduceMul, Nat.reduceAdd, String.reduceEq, encT_eq, k2, k3, k4]
  refine cal_eq (hc b) ?_
  rw [if_neg g2]
  simp only [go_sem, Nat.reduceEqDiff, Nat.reduceBEq, Int.reduceToNat, Int.reduceLT, Int.reduceLE, Int.reduceEq, Nat.reduceLeDiff, Nat.reduceLT, Nat.reduceMul, Nat.reduceAdd, String.reduceEq]
  refine drn_of ⟨[], [], []⟩ [0, 0, 0, 6, 0, 0, 62, 126, 254, 0, 512, 1536, 4095, 8191, 16383, 32767] (by kernel_rfl) ?_
  simp only [go_sem, Nat.reduceEqDiff, Nat.reduceBEq, Int.reduceToNat, Int.reduceLT, Int.reduceLE, Int.reduceEq, Nat.reduceLeDiff, Nat.reduceLT, Nat.reduceMul, Nat.reduceAdd, String.reduceEq]
  refine cald_eq (hc2 _ rfl) ?_
  simp only [go_sem, Nat.reduceEqDiff, Nat.reduceBEq, Int.reduceToNat, Int.reduceLT, Int.reduceLE, Int.reduceEq, Nat.reduceLeDiff, Nat.reduceLT, Nat.reduceMul, Nat.reduceAdd, String.reduceEq]
  refine cald_eq (hc2 _ rfl) ?_
  have h60' : (rs.cs.set a.toNat (getC rs.cs b)).length = 60 := by rw [List.length_set]; exact h60
  have hsp2 := fun v a1 t => set_cells' (v := v) hb0 hb1 h60' a1 t
  have hfit2 : 1 + b.toNat ≤ ((rs.cs.set a.toNat (getC rs.cs b)).map (IV.v <| .int .i64 ·)).length + 2 := by rw [List.length_map]; omega
  simp only [go_sem, Nat.reduceEqDiff, Nat.reduceBEq, Int.reduceToNat, Int.reduceLT, Int.reduceLE, Int.reduceEq, Nat.reduceLeDiff, Nat.reduceLT, Nat.reduceMul, Nat.reduceAdd, String.reduceEq, hfit, hsp, hdc, hdb, hsp2, hfit2]
  refine hQ .normal _ ?_
  exact post_end _ _ (.tup []) (by simp only [go_sem, Nat.reduceEqDiff, Nat.reduceBEq, Int.reduceToNat, Int.reduceLT, Int.reduceLE, Int.reduceEq, Nat.reduceLeDiff, Nat.reduceLT, Nat.reduceMul, Nat.reduceAdd, String.reduceEq]) rfl (hD { rs with cs := (rs.cs.set a.toNat (getC rs.cs b)).set b.toNat (getC rs.cs a) }) ⟨rfl, by rw [chg, if_neg g, if_neg k2, if_neg k3, if_neg k4, if_neg g2]⟩
mutual
def argT : Stmt → Prop
  | .mk k _ x n b e _ => (0 ≤ n ∧ n < 9223372036854775808) ∧ (k = 1 ∨ k = 6 → ∃ y l, x = y :: l) ∧ (¬ (k = 1 ∨ k = 6 ∨ k = 7 ∨ k = 8) → ∃ y z l, x = y :: z :: l) ∧ argTs b ∧ argTs e
def argTs : List Stmt → Prop
  | [] => True
  | s :: l => argT s ∧ argTs l
end
theorem argTs_at : ∀ {l : List Stmt} {k : Nat} {e : Stmt}, argTs l → l[k]? = some e → argT e
  | s :: l, 0, e, h, hk => by simp at hk; subst hk; exact h.1
  | s :: l, k + 1, e, h, hk => by simp at hk; exact argTs_at h.2 hk
def loopU (f : Int → RS → Option RS) : Nat → Int → RS → Option RS
  | 0, _, rs => some rs
  | n + 1, i, rs => (f i rs).bind (loopU f n (i + 1))
def loopDn (f : Int → RS → Option RS) : Nat → RS → Option RS
  | 0, rs => some rs
  | n + 1, rs => (f n rs).bind (loopDn f n)
mutual
def runS : Stmt → RS → Option RS
  | .mk k s x n b e _, rs =>
    if k = 1 then (valE (x.getD 0 E0) rs).map fun v => rs.put s v
    else if k = 6 then (valE (x.getD 0 E0) rs).bind fun v => if v = 0 then runB e rs else runB b rs
    else if k = 7 then loopU (fun i rs => runB b (rs.put s i)) n.toNat 0 rs
    else if k = 8 then loopDn (fun i rs => runB b (rs.put s i)) n.toNat rs
    else (valE (x.getD 0 E0) rs).bind fun a => (valE (x.getD 1 E0) rs).map fun c => chg k a c rs
def runB : List Stmt → RS → Option RS
  | [], rs => some rs
  | s :: l, rs => (runS s rs).bind (runB l)
end
theorem loopU_len {f : Int → RS → Option RS} (hf : ∀ i rs rs', f i rs = some rs' → rs'.cs.length = rs.cs.length) : ∀ (n : Nat) (i : Int) (rs rs' : RS), loopU f n i rs = some rs' → rs'.cs.length = rs.cs.length
  | 0, i, rs, rs', h => by simp only [loopU, Option.some.injEq] at h; rw [h]
  | n + 1, i, rs, rs', h => by
    simp only [loopU, Option.bind_eq_some_iff] at h
    obtain ⟨r, h1, h2⟩ := h
    rw [loopU_len hf n _ _ _ h2, hf _ _ _ h1]
theorem loopDn_len {f : Int → RS → Option RS} (hf : ∀ i rs rs', f i rs = some rs' → rs'.cs.length = rs.cs.length) : ∀ (n : Nat) (rs rs' : RS), loopDn f n rs = some rs' → rs'.cs.length = rs.cs.length
  | 0, rs, rs', h => by simp only [loopDn, Option.some.injEq] at h; rw [h]
  | n + 1, rs, rs', h => by
    simp only [loopDn, Option.bind_eq_some_iff] at h
    obtain ⟨r, h1, h2⟩ := h
    rw [loopDn_len hf n _ _ h2, hf _ _ _ h1]
mutual
theorem runS_len : ∀ (s : Stmt) (rs rs' : RS), runS s rs = some rs' → rs'.cs.length = rs.cs.length
  | .mk k s x n b e p, rs, rs', h => by
    have hb := fun rs rs' h => runB_len b rs rs' h
    have he := fun rs rs' h => runB_len e rs rs' h
    rw [runS] at h
    split at h
    · simp only [Option.map_eq_some_iff] at h; obtain ⟨v, _, rfl⟩ := h; rfl
    · split at h
      · simp only [Option.bind_eq_some_iff] at h; obtain ⟨v, _, h⟩ := h
        split at h
        · exact he _ _ h
        · exact hb _ _ h
      · split at h
        · exact loopU_len (f := fun i rs => runB b (rs.put s i)) (fun i r r' q => hb (r.put s i) r' q) _ _ _ _ h
        · split at h
          · exact loopDn_len (f := fun i rs => runB b (rs.put s i)) (fun i r r' q => hb (r.put s i) r' q) _ _ _ h
          · simp only [Option.bind_eq_some_iff, Option.map_eq_some_iff] at h; obtain ⟨v, _, w, _, rfl⟩ := h; exact chg_len _ _ _ _
theorem runB_len : ∀ (l : List Stmt) (rs rs' : RS), runB l rs = some rs' → rs'.cs.length = rs.cs.length
  | [], rs, rs', h => by simp only [runB, Option.some.injEq] at h; rw [h]
  | s :: l, rs, rs', h => by
    simp only [runB, Option.bind_eq_some_iff] at h
    obtain ⟨r, h1, h2⟩ := h
    rw [runB_len l _ _ h2, runS_len s _ _ h1]
end
end Go.Proofs.Ytphjldhdnmoolaa.A
/- The walks of some functions over the abstract machine. -/
namespace Go.Proofs.Ytphjldhdnmoolaa.A
open Go
/-! eval's round and block -/
theorem wrap_id {x : Int} (h0 : -9223372036854775808 ≤ x) (h1 : x < 9223372036854775808) : IntKind.i64.wrap x = x := by simp only [IntKind.wrap, IntKind.bits, IntKind.signed]; simp; omega
def EBC (N : Nat) : Prop := ∀ (l : List Stmt) (rs rs' : RS), szt l ≤ N → argTs l → rs.cs.length = 60 → runB l rs = some rs' → SimX 62 [slT l] rs rs'
def ERC (N : Nat) : Prop := ∀ (s : Stmt) (i : Int) (rs rs' : RS), szt s.b ≤ N → argTs s.b → rs.cs.length = 60 → runB s.b (rs.put s.s i) = some rs' → SimX 87 [.agg (encT s), ii i] rs rs'
set_option maxRecDepth 100000 in
set_option maxHeartbeats 4000000 in
theorem round_step {N : Nat} (ih : EBC N) : ERC N := by
  intro s i rs rs' hN ha h60 hr B R rw_
  have d61 := fun t => drop61 h60 t
  have hsub := ih s.b (rs.put s.s i) rs' hN ha h60 hr B R rw_
  have hput : (⟨RM B (rs.put s.s i) R, rw_⟩ : Mem) = ⟨B ++ (.map (encM (putM s.s i rs.kn rs.kc).1) (putM s.s i rs.kn rs.kc).2 :: .cells (cellsR B.length rs) :: R), rw_⟩ := rfl
  refine Sim.ofS 17 [] Try.func87 rfl rfl rfl (by simp) fun wr => ?_
  simp only [go_sem, Nat.reduceEqDiff, Nat.reduceBEq, Int.reduceToNat, Int.reduceLT, Int.reduceLE, Int.reduceEq, Nat.reduceLeDiff, Nat.reduceLT, Nat.reduceMul, Nat.reduceAdd, String.reduceEq]
  refine TS.of [4] fun Q hQ => ?_
  simp only [go_sem, Nat.reduceEqDiff, Nat.reduceBEq, Int.reduceToNat, Int.reduceLT, Int.reduceLE, Int.reduceEq, Nat.reduceLeDiff, Nat.reduceLT, Nat.reduceMul, Nat.reduceAdd, String.reduceEq, encT_eq]
  refine drn_of ⟨[], [], []⟩ [0, 1, 3, 7, 0, 16, 0, 127] (by kernel_rfl) ?_
  simp only [go_sem, Nat.reduceEqDiff, Nat.reduceBEq, Int.reduceToNat, Int.reduceLT, Int.reduceLE, Int.reduceEq, Nat.reduceLeDiff, Nat.reduceLT, Nat.reduceMul, Nat.reduceAdd, String.reduceEq, encT_eq, d61, Mem.map_, mlook_enc, mupd_enc]
  refine cal_eq hsub ?_
  simp only [go_sem, Nat.reduceEqDiff, Nat.reduceBEq, Int.reduceToNat, Int.reduceLT, Int.reduceLE, Int.reduceEq, Nat.reduceLeDiff, Nat.reduceLT, Nat.reduceMul, Nat.reduceAdd, String.reduceEq]
  refine hQ .normal _ ?_
  have hD := DropW.rk B rs rs' R [] rw_ rw_ rw_ (Nat.le_refl _) (by simp)
  rw [List.append_nil] at hD
  exact post_end _ _ (.tup []) (by simp only [go_sem, Nat.reduceEqDiff, Nat.reduceBEq, Int.reduceToNat, Int.reduceLT, Int.reduceLE, Int.reduceEq, Nat.reduceLeDiff, Nat.reduceLT, Nat.reduceMul, Nat.reduceAdd, String.reduceEq]) rfl hD ⟨rfl, rfl⟩
theorem npT_sh (x : Stmt) : (encT x).map IV.sh = encT x := by rw [encT_eq]; rfl
set_option maxRecDepth 100000 in
set_option maxHeartbeats 4000000 in
theorem eblock_step {N : Nat} (hNb : N < 900000) (ihB : ∀ M, M < N → EBC M) (ihR : ∀ M, M < N → ERC M) : EBC N := by
  intro l rs rs' hN harg h60 hrun B R rw_
  have hll := szt_len l
  have hD := fun rs1 rs2 X => DropW.rk B rs1 rs2 R X rw_ rw_ rw_ (Nat.le_refl _) (by simp)
  have hD0 := fun rs1 rs2 => DropW.rk B rs1 rs2 R [] rw_ rw_ rw_ (Nat.le_refl _) (by simp)
  simp only [List.append_nil] at hD0
  refine Sim.ofS 76 [] Try.func62 rfl rfl rfl (by simp) fun wr => ?_
  simp only [go_sem, Nat.reduceEqDiff, Nat.reduceBEq, Int.reduceToNat, Int.reduceLT, Int.reduceLE, Int.reduceEq, Nat.reduceLeDiff, Nat.reduceLT, Nat.reduceMul, Nat.reduceAdd, String.reduceEq]
  refine TS.seq (TS.of [] fun Q hQ => ?_)
  simp only [go_sem, Nat.reduceEqDiff, Nat.reduceBEq, Int.reduceToNat, Int.reduceLT, Int.reduceLE, Int.reduceEq, Nat.reduceLeDiff, Nat.reduceLT, Nat.reduceMul, Nat.reduceAdd, String.reduceEq]
  refine hQ .normal _ ?_; clear hQ Q
  refine TS.block (TS.loop (α := Nat × RS) (fun x => [(0, .ptr (B.length + 1) 0), (8, slT l), (9, ii l.length), (10, ii x.1)]) (fun x => ⟨RM B x.2 R, rw_⟩) (fun x => x.1 ≤ l.length ∧ x.2.cs.length = 60 ∧ runB (l.drop x.1) x.2 = some rs') (fun x => l.length - x.1) (0, rs) (by simp) ⟨by simp [Has, upd_apply, argsT], rfl, by simp [h60, hrun]⟩ ?_)
  rintro ⟨k, r⟩ st hH hm ⟨hk, hr60, hrest⟩
  dsimp only at hH hm hk hr60 hrest
  simp only [Has, List.mem_cons, List.not_mem_nil, or_false, forall_eq_or_imp, forall_eq] at hH; obtain ⟨i0, i8, i9, i10⟩ := hH
  by_cases hlt : k < l.length
  · obtain ⟨x, hx⟩ : ∃ x, l[k]? = some x := ⟨_, List.getElem?_eq_getElem hlt⟩
    have hdr : l.drop k = x :: l.drop (k + 1) := by rw [List.drop_eq_getElem_cons hlt]; congr 1; exact Option.some.inj ((List.getElem?_eq_getElem hlt).symm.trans hx)
    have hat := encTs_at hx
    have hlt7 : k * 7 < (encTs l).length := by rw [encTs_length]; omega
    have hw := wrap_succ hlt (by omega)
    have hszx := szT_at hx
    have hax := argTs_at harg hx
    have hxsz := szT_eq x
    rw [hdr, runB, Option.bind_eq_some_iff] at hrest
    obtain ⟨r1, hr1, hrest⟩ := hrest
    have hr1l : r1.cs.length = 60 := by rw [runS_len _ _ _ hr1]; exact hr60
    obtain ⟨⟨hn0, hn1⟩, hs1, hs2, hab, hae⟩ : (0 ≤ x.n ∧ x.n < 9223372036854775808) ∧ (x.k = 1 ∨ x.k = 6 → ∃ y l, x.x = y :: l) ∧ (¬ (x.k = 1 ∨ x.k = 6 ∨ x.k = 7 ∨ x.k = 8) → ∃ y z l, x.x = y :: z :: l) ∧ argTs x.b ∧ argTs x.e := by cases x; exact hax
    rw [show x = .mk x.k x.s x.x x.n x.b x.e x.p by cases x; rfl, runS] at hr1
    have d61 := fun t => drop61 hr60 t
    refine TS.seq (TS.of [] fun Q hQ => ?_)
    simp only [go_sem, Nat.reduceEqDiff, Nat.reduceBEq, Int.reduceToNat, Int.reduceLT, Int.reduceLE, Int.reduceEq, Nat.reduceLeDiff, Nat.reduceLT, Nat.reduceMul, Nat.reduceAdd, String.reduceEq, i0, i8, i9, i10, hm, hlt]
    refine hQ .normal _ ?_; clear hQ Q
    refine TS.seq (TS.of [] fun Q hQ => ?_)
    simp only [go_sem, Nat.reduceEqDiff, Nat.reduceBEq, Int.reduceToNat, Int.reduceLT, Int.reduceLE, Int.reduceEq, Nat.reduceLeDiff, Nat.reduceLT, Nat.reduceMul, Nat.reduceAdd, String.reduceEq]
    refine hQ .normal _ ?_; clear hQ Q
    refine TS.seq (TS.mono (Q := fun e1 s => e1 = .normal ∧ (s.t 0 = .ptr (B.length + 1) 0 ∧ s.t 8 = slT l ∧ s.t 9 = ii l.length ∧ s.t 10 = ii k) ∧ s.m = ⟨RM B r1 (R ++ [.cells (encT x)]), rw_⟩) ?_ ?_)
    · refine TS.block (TS.seq (TS.of [] fun Q hQ => ?_))
      simp only [go_sem, Nat.reduceEqDiff, Nat.reduceBEq, Int.reduceToNat, Int.reduceLT, Int.reduceLE, Int.reduceEq, Nat.reduceLeDiff, Nat.reduceLT, Nat.reduceMul, Nat.reduceAdd, String.reduceEq, i0, i8, i9, i10, hlt, hat, hlt7]
      refine hQ .normal _ ?_; clear hQ Q
      refine TS.seq (TS.of [] fun Q hQ => ?_)
      simp only [go_sem, Nat.reduceEqDiff, Nat.reduceBEq, Int.reduceToNat, Int.reduceLT, Int.reduceLE, Int.reduceEq, Nat.reduceLeDiff, Nat.reduceLT, Nat.reduceMul, Nat.reduceAdd, String.reduceEq, i0, i8, i9, i10]
      refine hQ .normal _ ?_; clear hQ Q
      have hval : ∀ (y : Expr) (v : Int), szE y ≤ szs x.x → valE y r = some v → Sim 61 [.ptr (B.length + 1) 0, .agg [ii y.k, ii y.n, ss y.s, slE y.a, ii y.p]] ⟨RM B r (R ++ [.cells (encT x)]), rw_⟩ (fun z m' => z = ii v ∧ m' = ⟨RM B r (R ++ [.cells (encT x)]), rw_⟩) := fun y v hy hv => by
        have := value_sim (e := y) (rs := r) (by omega) hr60 hv B (R ++ [.cells (encT x)]) rw_
        rwa [encE_eq] at this
      have hes : ∀ (y : Expr) (ly : List Expr), encEs (y :: ly) = [ii y.k, ii y.n, ss y.s, slE y.a, ii y.p] ++ encEs ly := fun y ly => by rw [encEs, encE_eq]
      refine TS.block ?_
      by_cases k1 : x.k = 1
      · rw [if_pos k1] at hr1
        obtain ⟨y, ly, hxx⟩ := hs1 (.inl k1)
        rw [hxx, List.getD_cons_zero, Option.map_eq_some_iff] at hr1
        obtain ⟨v, hv, rfl⟩ := hr1
        have hsub := hval y v (by rw [hxx, szs]; omega) hv
        have hob : encT x = [ii x.k, ss x.s, .sl .sh (ly.length + 1) (ii y.k :: ii y.n :: ss y.s :: slE y.a :: ii y.p :: encEs ly), ii x.n, slT x.b, slT x.e, ii x.p] := by rw [encT_eq, hxx]; simp only [slE, hes, List.length_cons, List.cons_append, List.nil_append]
        rw [hob] at hsub
        have n0 : (0 : Int) < ((ly.length + 1 : Nat) : Int) := by omega
        refine TS.of [] fun Q hQ => ?_
        simp only [go_sem, Nat.reduceEqDiff, Nat.reduceBEq, Int.reduceToNat, Int.reduceLT, Int.reduceLE, Int.reduceEq, Nat.reduceLeDiff, Nat.reduceLT, Nat.reduceMul, Nat.reduceAdd, String.reduceEq, eq_true k1, hxx, hes]
        refine drn_of ⟨[], [], []⟩ [0, 1, 3, 7, 0, 16, 0, 0, 128, 384, 896, 1984, 4095] (by kernel_rfl) ?_
        simp only [go_sem, Nat.reduceEqDiff, Nat.reduceBEq, Int.reduceToNat, Int.reduceLT, Int.reduceLE, Int.reduceEq, Nat.reduceLeDiff, Nat.reduceLT, Nat.reduceMul, Nat.reduceAdd, String.reduceEq, i0, hxx, hes, d61, n0, Nat.zero_lt_succ]
        refine cald_eq hsub ?_
        simp only [go_sem, Nat.reduceEqDiff, Nat.reduceBEq, Int.reduceToNat, Int.reduceLT, Int.reduceLE, Int.reduceEq, Nat.reduceLeDiff, Nat.reduceLT, Nat.reduceMul, Nat.reduceAdd, String.reduceEq, Mem.map_, mlook_enc, mupd_enc]
        refine hQ .normal _ ?_; clear hQ Q
        refine ⟨rfl, ?_, ?_⟩
        · simp [upd_apply, i0, i8, i9, i10]
        · rw [hob]; rfl
      rw [if_neg k1] at hr1
      by_cases k6 : x.k = 6
      · rw [if_pos k6] at hr1
        obtain ⟨y, ly, hxx⟩ := hs1 (.inr k6)
        rw [hxx, List.getD_cons_zero, Option.bind_eq_some_iff] at hr1
        obtain ⟨v, hv, hr1⟩ := hr1
        have hsub := hval y v (by rw [hxx, szs]; omega) hv
        have hob : encT x = [ii x.k, ss x.s, .sl .sh (ly.length + 1) (ii y.k :: ii y.n :: ss y.s :: slE y.a :: ii y.p :: encEs ly), ii x.n, slT x.b, slT x.e, ii x.p] := by rw [encT_eq, hxx]; simp only [slE, hes, List.length_cons, List.cons_append, List.nil_append]
        rw [hob] at hsub
        have n0 : (0 : Int) < ((ly.length + 1 : Nat) : Int) := by omega
        by_cases v0 : v = 0
        · rw [if_pos v0] at hr1
          have hb := ihB (szt x.e) (by omega) x.e r r1 (Nat.le_refl _) hae hr60 hr1 B (R ++ [.cells (encT x)]) rw_
          rw [hob] at hb
          refine TS.of [] fun Q hQ => ?_
          simp only [go_sem, Nat.reduceEqDiff, Nat.reduceBEq, Int.reduceToNat, Int.reduceLT, Int.reduceLE, Int.reduceEq, Nat.reduceLeDiff, Nat.reduceLT, Nat.reduceMul, Nat.reduceAdd, String.reduceEq, eq_false k1, eq_true k6, hxx, hes, i0, n0, Nat.zero_lt_succ]
          refine cal_eq hsub ?_
          simp only [go_sem, Nat.reduceEqDiff, Nat.reduceBEq, Int.reduceToNat, Int.reduceLT, Int.reduceLE, Int.reduceEq, Nat.reduceLeDiff, Nat.reduceLT, Nat.reduceMul, Nat.reduceAdd, String.reduceEq, v0, i0, hxx, hes]
          refine cal_eq hb ?_
          simp only [go_sem, Nat.reduceEqDiff, Nat.reduceBEq, Int.reduceToNat, Int.reduceLT, Int.reduceLE, Int.reduceEq, Nat.reduceLeDiff, Nat.reduceLT, Nat.reduceMul, Nat.reduceAdd, String.reduceEq]
          refine hQ .normal _ ?_; clear hQ Q
          refine ⟨rfl, ?_, ?_⟩
          · simp [upd_apply, i0, i8, i9, i10]
          · rw [hob]
        · rw [if_neg v0] at hr1
          have hb := ihB (szt x.b) (by omega) x.b r r1 (Nat.le_refl _) hab hr60 hr1 B (R ++ [.cells (encT x)]) rw_
          rw [hob] at hb
          refine TS.of [] fun Q hQ => ?_
          simp only [go_sem, Nat.reduceEqDiff, Nat.reduceBEq, Int.reduceToNat, Int.reduceLT, Int.reduceLE, Int.reduceEq, Nat.reduceLeDiff, Nat.reduceLT, Nat.reduceMul, Nat.reduceAdd, String.reduceEq, eq_false k1, eq_true k6, hxx, hes, i0, n0, Nat.zero_lt_succ]
          refine cal_eq hsub ?_
          simp only [go_sem, Nat.reduceEqDiff, Nat.reduceBEq, Int.reduceToNat, Int.reduceLT, Int.reduceLE, Int.reduceEq, Nat.reduceLeDiff, Nat.reduceLT, Nat.reduceMul, Nat.reduceAdd, String.reduceEq, v0, i0, hxx, hes]
          refine cal_eq hb ?_
          simp only [go_sem, Nat.reduceEqDiff, Nat.reduceBEq, Int.reduceToNat, Int.reduceLT, Int.reduceLE, Int.reduceEq, Nat.reduceLeDiff, Nat.reduceLT, Nat.reduceMul, Nat.reduceAdd, String.reduceEq]
          refine hQ .normal _ ?_; clear hQ Q
          refine ⟨rfl, ?_, ?_⟩
          · simp [upd_apply, i0, i8, i9, i10]
          · rw [hob]
      rw [if_neg k6] at hr1
      have hDx := fun ra rb => DropW.rk B ra rb (R ++ [.cells (encT x)]) [] rw_ rw_ rw_ (Nat.le_refl _) (by simp)
      simp only [List.append_nil] at hDx
      by_cases k7 : x.k = 7
      · rw [if_pos k7] at hr1
        refine TS.seq (TS.of [] fun Q hQ => ?_)
        simp only [go_sem, Nat.reduceEqDiff, Nat.reduceBEq, Int.reduceToNat, Int.reduceLT, Int.reduceLE, Int.reduceEq, Nat.reduceLeDiff, Nat.reduceLT, Nat.reduceMul, Nat.reduceAdd, String.reduceEq, eq_false k1]
        refine hQ .normal _ ?_; clear hQ Q
        refine TS.cond (t := false) (by simp only [go_sem, Nat.reduceEqDiff, Nat.reduceBEq, Int.reduceToNat, Int.reduceLT, Int.reduceLE, Int.reduceEq, Nat.reduceLeDiff, Nat.reduceLT, Nat.reduceMul, Nat.reduceAdd, String.reduceEq]) ?_
        refine TS.seq (TS.of [] fun Q hQ => ?_)
        simp only [go_sem, Nat.reduceEqDiff, Nat.reduceBEq, Int.reduceToNat, Int.reduceLT, Int.reduceLE, Int.reduceEq, Nat.reduceLeDiff, Nat.reduceLT, Nat.reduceMul, Nat.reduceAdd, String.reduceEq, eq_false k6]
        refine hQ .normal _ ?_; clear hQ Q
        refine TS.cond (t := false) (by simp only [go_sem, Nat.reduceEqDiff, Nat.reduceBEq, Int.reduceToNat, Int.reduceLT, Int.reduceLE, Int.reduceEq, Nat.reduceLeDiff, Nat.reduceLT, Nat.reduceMul, Nat.reduceAdd, String.reduceEq]) ?_
        refine TS.seq (TS.mono (Q := fun e1 s => e1 = .normal ∧ (s.t 0 = .ptr (B.length + 1) 0 ∧ s.t 5 = .ptr (B.length + (R.length + 1 + 1)) 0 ∧ s.t 8 = slT l ∧ s.t 9 = ii l.length ∧ s.t 10 = ii k ∧ s.t 50 = bb true) ∧ s.m = ⟨RM B r (R ++ [.cells (encT x)]), rw_⟩) ?_ ?_)
        · refine TS.of [] fun Q hQ => ?_
          simp only [go_sem, Nat.reduceEqDiff, Nat.reduceBEq, Int.reduceToNat, Int.reduceLT, Int.reduceLE, Int.reduceEq, Nat.reduceLeDiff, Nat.reduceLT, Nat.reduceMul, Nat.reduceAdd, String.reduceEq, eq_true k7]
          refine hQ .normal _ ?_; clear hQ Q
          refine ⟨rfl, ?_, by rw [encT_eq]⟩
          simp [upd_apply, i0, i8, i9, i10]
        rintro e1 s1 ⟨rfl, ⟨i0, i5, i8, i9, i10, i50⟩, hm1⟩
        refine TS.cond (t := true) (by simp only [go_sem, Nat.reduceEqDiff, Nat.reduceBEq, Int.reduceToNat, Int.reduceLT, Int.reduceLE, Int.reduceEq, Nat.reduceLeDiff, Nat.reduceLT, Nat.reduceMul, Nat.reduceAdd, String.reduceEq, i50]) ?_
        refine TS.seq (TS.of [] fun Q hQ => ?_)
        simp only [go_sem, Nat.reduceEqDiff, Nat.reduceBEq, Int.reduceToNat, Int.reduceLT, Int.reduceLE, Int.reduceEq, Nat.reduceLeDiff, Nat.reduceLT, Nat.reduceMul, Nat.reduceAdd, String.reduceEq, hm1, i0, i5, encT_eq]
        refine hQ .normal _ ?_; clear hQ Q
        refine TS.block (TS.loop (α := Nat × RS) (fun y => [(0, .ptr (B.length + 1) 0), (5, .ptr (B.length + (R.length + 1 + 1)) 0), (8, slT l), (9, ii l.length), (10, ii k), (53, ii x.n), (54, ii y.1)]) (fun y => ⟨RM B y.2 (R ++ [.cells (encT x)]), rw_⟩) (fun y => y.1 ≤ x.n.toNat ∧ y.2.cs.length = 60 ∧ loopU (fun i rs => runB x.b (rs.put x.s i)) (x.n.toNat - y.1) y.1 y.2 = some r1) (fun y => x.n.toNat - y.1) (0, r) (by simp) ⟨by simp [Has, upd_apply, i0, i5, i8, i9, i10], by rw [encT_eq], by simp [hr60, hr1]⟩ ?_)
        rintro ⟨j, rj⟩ s2 hH hm2 ⟨hj, hj60, hjr⟩
        dsimp only at hH hm2 hj hj60 hjr
        simp only [Has, List.mem_cons, List.not_mem_nil, or_false, forall_eq_or_imp, forall_eq] at hH; obtain ⟨j0, j5, j8, j9, j10, j53, j54⟩ := hH
        by_cases hjl : (j : Int) < x.n
        · have hjn : x.n.toNat - j = (x.n.toNat - j - 1) + 1 := by omega
          rw [hjn, loopU, Option.bind_eq_some_iff] at hjr
          obtain ⟨r2, hr2, hjr⟩ := hjr
          have hsub := ihR (szt x.b) (by omega) x j rj r2 (Nat.le_refl _) hab hj60 hr2 B (R ++ [.cells (encT x)]) rw_
          rw [encT_eq] at hsub
          have hwj : IntKind.i64.wrap ((j : Int) + 1) = ((j + 1 : Nat) : Int) := by rw [wrap_id (by omega) (by omega)]; omega
          refine TS.of [] fun Q hQ => ?_
          simp only [go_sem, Nat.reduceEqDiff, Nat.reduceBEq, Int.reduceToNat, Int.reduceLT, Int.reduceLE, Int.reduceEq, Nat.reduceLeDiff, Nat.reduceLT, Nat.reduceMul, Nat.reduceAdd, String.reduceEq, j0, j5, j8, j9, j10, j53, j54, hm2, hjl, encT_eq]
          refine cal_eq hsub ?_
          simp only [go_sem, Nat.reduceEqDiff, Nat.reduceBEq, Int.reduceToNat, Int.reduceLT, Int.reduceLE, Int.reduceEq, Nat.reduceLeDiff, Nat.reduceLT, Nat.reduceMul, Nat.reduceAdd, String.reduceEq, j0, j5, j8, j9, j10, j53, j54, hwj]
          refine hQ .normal _ ?_; clear hQ Q
          refine ⟨_, _, (j + 1, r2), by rw [encT_eq]; have := hDx rj r2; rw [encT_eq] at this; exact this, ?_, ⟨by dsimp only; omega, by rw [runB_len _ _ _ hr2]; exact hj60, by dsimp only; rw [show x.n.toNat - (j + 1) = x.n.toNat - j - 1 by omega]; exact hjr⟩, by dsimp only; omega⟩
          simp [upd_apply, j0, j5, j8, j9, j10, j53, IV.np, np_sh, npTs] <;> omega
        · refine TS.of [] fun Q hQ => ?_
          simp only [go_sem, Nat.reduceEqDiff, Nat.reduceBEq, Int.reduceToNat, Int.reduceLT, Int.reduceLE, Int.reduceEq, Nat.reduceLeDiff, Nat.reduceLT, Nat.reduceMul, Nat.reduceAdd, String.reduceEq, j0, j5, j8, j9, j10, j53, j54, hm2, hjl]
          refine hQ (.exit 3) _ ?_; clear hQ Q
          rw [show x.n.toNat - j = 0 by omega, loopU, Option.some.injEq] at hjr
          subst hjr
          exact ⟨rfl, by simp [upd_apply, j0, j8, j9, j10], rfl⟩
      rw [if_neg k7] at hr1
      by_cases k8 : x.k = 8
      · rw [if_pos k8] at hr1
        refine TS.seq (TS.of [] fun Q hQ => ?_)
        simp only [go_sem, Nat.reduceEqDiff, Nat.reduceBEq, Int.reduceToNat, Int.reduceLT, Int.reduceLE, Int.reduceEq, Nat.reduceLeDiff, Nat.reduceLT, Nat.reduceMul, Nat.reduceAdd, String.reduceEq, eq_false k1]
        refine hQ .normal _ ?_; clear hQ Q
        refine TS.cond (t := false) (by simp only [go_sem, Nat.reduceEqDiff, Nat.reduceBEq, Int.reduceToNat, Int.reduceLT, Int.reduceLE, Int.reduceEq, Nat.reduceLeDiff, Nat.reduceLT, Nat.reduceMul, Nat.reduceAdd, String.reduceEq]) ?_
        refine TS.seq (TS.of [] fun Q hQ => ?_)
        simp only [go_sem, Nat.reduceEqDiff, Nat.reduceBEq, Int.reduceToNat, Int.reduceLT, Int.reduceLE, Int.reduceEq, Nat.reduceLeDiff, Nat.reduceLT, Nat.reduceMul, Nat.reduceAdd, String.reduceEq, eq_false k6]
        refine hQ .normal _ ?_; clear hQ Q
        refine TS.cond (t := false) (by simp only [go_sem, Nat.reduceEqDiff, Nat.reduceBEq, Int.reduceToNat, Int.reduceLT, Int.reduceLE, Int.reduceEq, Nat.reduceLeDiff, Nat.reduceLT, Nat.reduceMul, Nat.reduceAdd, String.reduceEq]) ?_
        refine TS.seq (TS.of [] fun Q hQ => ?_)
        simp only [go_sem, Nat.reduceEqDiff, Nat.reduceBEq, Int.reduceToNat, Int.reduceLT, Int.reduceLE, Int.reduceEq, Nat.reduceLeDiff, Nat.reduceLT, Nat.reduceMul, Nat.reduceAdd, String.reduceEq, eq_false k7]
        refine hQ .normal _ ?_; clear hQ Q
        refine TS.cond (t := false) (by simp only [go_sem, Nat.reduceEqDiff, Nat.reduceBEq, Int.reduceToNat, Int.reduceLT, Int.reduceLE, Int.reduceEq, Nat.reduceLeDiff, Nat.reduceLT, Nat.reduceMul, Nat.reduceAdd, String.reduceEq]) ?_
        refine TS.seq (TS.mono (Q := fun e1 s => e1 = .normal ∧ (s.t 0 = .ptr (B.length + 1) 0 ∧ s.t 5 = .ptr (B.length + (R.length + 1 + 1)) 0 ∧ s.t 8 = slT l ∧ s.t 9 = ii l.length ∧ s.t 10 = ii k ∧ s.t 62 = bb true) ∧ s.m = ⟨RM B r (R ++ [.cells (encT x)]), rw_⟩) ?_ ?_)
        · refine TS.of [] fun Q hQ => ?_
          simp only [go_sem, Nat.reduceEqDiff, Nat.reduceBEq, Int.reduceToNat, Int.reduceLT, Int.reduceLE, Int.reduceEq, Nat.reduceLeDiff, Nat.reduceLT, Nat.reduceMul, Nat.reduceAdd, String.reduceEq, eq_true k8]
          refine hQ .normal _ ?_; clear hQ Q
          refine ⟨rfl, ?_, by rw [encT_eq]⟩
          simp [upd_apply, i0, i8, i9, i10]
        rintro e1 s1 ⟨rfl, ⟨i0, i5, i8, i9, i10, i62⟩, hm1⟩
        refine TS.cond (t := true) (by simp only [go_sem, Nat.reduceEqDiff, Nat.reduceBEq, Int.reduceToNat, Int.reduceLT, Int.reduceLE, Int.reduceEq, Nat.reduceLeDiff, Nat.reduceLT, Nat.reduceMul, Nat.reduceAdd, String.reduceEq, i62]) ?_
        have hwn : IntKind.i64.wrap (x.n - 1) = (x.n.toNat : Int) - 1 := by rw [wrap_id (by omega) (by omega)]; omega
        refine TS.seq (TS.of [] fun Q hQ => ?_)
        simp only [go_sem, Nat.reduceEqDiff, Nat.reduceBEq, Int.reduceToNat, Int.reduceLT, Int.reduceLE, Int.reduceEq, Nat.reduceLeDiff, Nat.reduceLT, Nat.reduceMul, Nat.reduceAdd, String.reduceEq, hm1, i0, i5, encT_eq, hwn]
        refine hQ .normal _ ?_; clear hQ Q
        refine TS.block (TS.loop (α := Nat × RS) (fun y => [(0, .ptr (B.length + 1) 0), (5, .ptr (B.length + (R.length + 1 + 1)) 0), (8, slT l), (9, ii l.length), (10, ii k), (7, ii ((y.1 : Int) - 1))]) (fun y => ⟨RM B y.2 (R ++ [.cells (encT x)]), rw_⟩) (fun y => y.1 ≤ x.n.toNat ∧ y.2.cs.length = 60 ∧ loopDn (fun i rs => runB x.b (rs.put x.s i)) y.1 y.2 = some r1) (fun y => y.1) (x.n.toNat, r) (by simp) ⟨by simp [Has, upd_apply, i0, i5, i8, i9, i10], by rw [encT_eq], by simp [hr60, hr1]⟩ ?_)
        rintro ⟨j, rj⟩ s2 hH hm2 ⟨hj, hj60, hjr⟩
        dsimp only at hH hm2 hj hj60 hjr
        simp only [Has, List.mem_cons, List.not_mem_nil, or_false, forall_eq_or_imp, forall_eq] at hH; obtain ⟨j0, j5, j8, j9, j10, j7⟩ := hH
        by_cases hj0 : j = 0
        · subst hj0
          rw [loopDn, Option.some.injEq] at hjr
          subst hjr
          refine TS.of [] fun Q hQ => ?_
          simp only [go_sem, Nat.reduceEqDiff, Nat.reduceBEq, Int.reduceToNat, Int.reduceLT, Int.reduceLE, Int.reduceEq, Nat.reduceLeDiff, Nat.reduceLT, Nat.reduceMul, Nat.reduceAdd, String.reduceEq, j0, j5, j8, j9, j10, j7, hm2, show ¬ (0 : Int) ≤ 0 - 1 by decide]
          refine hQ (.exit 5) _ ?_; clear hQ Q
          exact ⟨rfl, by simp [upd_apply, j0, j8, j9, j10], rfl⟩
        · obtain ⟨i, rfl⟩ : ∃ i, j = i + 1 := ⟨j - 1, by omega⟩
          rw [loopDn, Option.bind_eq_some_iff] at hjr
          obtain ⟨r2, hr2, hjr⟩ := hjr
          have hsub := ihR (szt x.b) (by omega) x i rj r2 (Nat.le_refl _) hab hj60 hr2 B (R ++ [.cells (encT x)]) rw_
          rw [encT_eq] at hsub
          rw [show ((i + 1 : Nat) : Int) - 1 = (i : Int) by omega] at j7
          have hwj : IntKind.i64.wrap ((i : Int) - 1) = (i : Int) - 1 := wrap_id (by omega) (by omega)
          refine TS.of [] fun Q hQ => ?_
          simp only [go_sem, Nat.reduceEqDiff, Nat.reduceBEq, Int.reduceToNat, Int.reduceLT, Int.reduceLE, Int.reduceEq, Nat.reduceLeDiff, Nat.reduceLT, Nat.reduceMul, Nat.reduceAdd, String.reduceEq, j0, j5, j8, j9, j10, j7, hm2, encT_eq, Int.natCast_nonneg]
          refine cal_eq hsub ?_
          simp only [go_sem, Nat.reduceEqDiff, Nat.reduceBEq, Int.reduceToNat, Int.reduceLT, Int.reduceLE, Int.reduceEq, Nat.reduceLeDiff, Nat.reduceLT, Nat.reduceMul, Nat.reduceAdd, String.reduceEq, j0, j5, j8, j9, j10, j7, hwj]
          refine hQ .normal _ ?_; clear hQ Q
          refine ⟨_, _, (i, r2), by rw [encT_eq]; have := hDx rj r2; rw [encT_eq] at this; exact this, ?_, ⟨by dsimp only; omega, by rw [runB_len _ _ _ hr2]; exact hj60, hjr⟩, by dsimp only; omega⟩
          simp [upd_apply, j0, j5, j8, j9, j10, IV.np, np_sh, npTs] <;> omega
      rw [if_neg k8] at hr1
      obtain ⟨y, z, ly, hxx⟩ := hs2 (by omega)
      rw [hxx, List.getD_cons_zero, List.getD_cons_succ, List.getD_cons_zero, Option.bind_eq_some_iff] at hr1
      obtain ⟨a, ha, hr1⟩ := hr1
      rw [Option.map_eq_some_iff] at hr1
      obtain ⟨c, hc, rfl⟩ := hr1
      have hsub := change_sim (s := x) hxx (by omega) hr60 ha hc B (R ++ [.cells (encT x)]) rw_
      rw [encT_eq] at hsub
      refine TS.of [] fun Q hQ => ?_
      simp only [go_sem, Nat.reduceEqDiff, Nat.reduceBEq, Int.reduceToNat, Int.reduceLT, Int.reduceLE, Int.reduceEq, Nat.reduceLeDiff, Nat.reduceLT, Nat.reduceMul, Nat.reduceAdd, String.reduceEq, eq_false k1, eq_false k6, eq_false k7, eq_false k8, i0, encT_eq]
      refine cal_eq hsub ?_
      simp only [go_sem, Nat.reduceEqDiff, Nat.reduceBEq, Int.reduceToNat, Int.reduceLT, Int.reduceLE, Int.reduceEq, Nat.reduceLeDiff, Nat.reduceLT, Nat.reduceMul, Nat.reduceAdd, String.reduceEq]
      refine hQ .normal _ ?_; clear hQ Q
      refine ⟨rfl, ?_, by rw [encT_eq]⟩
      simp [upd_apply, i0, i8, i9, i10]
    · rintro e1 s1 ⟨rfl, ⟨i0, i8, i9, i10⟩, hm1⟩
      refine TS.of [] fun Q hQ => ?_
      simp only [go_sem, Nat.reduceEqDiff, Nat.reduceBEq, Int.reduceToNat, Int.reduceLT, Int.reduceLE, Int.reduceEq, Nat.reduceLeDiff, Nat.reduceLT, Nat.reduceMul, Nat.reduceAdd, String.reduceEq, i0, i8, i9, i10, hw]
      refine hQ .normal _ ?_; clear hQ Q
      refine ⟨_, _, (k + 1, r1), hm1 ▸ hD r r1 [.cells (encT x)], ?_, ⟨hlt, hr1l, hrest⟩, by dsimp only; omega⟩
      simp [upd_apply, i0, i8, i9, IV.np, np_sh, npTs] <;> omega
  · refine TS.of [] fun Q hQ => ?_
    simp only [go_sem, Nat.reduceEqDiff, Nat.reduceBEq, Int.reduceToNat, Int.reduceLT, Int.reduceLE, Int.reduceEq, Nat.reduceLeDiff, Nat.reduceLT, Nat.reduceMul, Nat.reduceAdd, String.reduceEq, i0, i8, i9, i10, hm, hlt]
    refine hQ (.exit 0) _ ?_; clear hQ Q
    have : l.drop k = [] := List.drop_eq_nil_of_le (by omega)
    rw [this, runB, Option.some.injEq] at hrest
    subst hrest
    refine post_end _ _ (.tup []) (by simp only [go_sem, Nat.reduceEqDiff, Nat.reduceBEq, Int.reduceToNat, Int.reduceLT, Int.reduceLE, Int.reduceEq, Nat.reduceLeDiff, Nat.reduceLT, Nat.reduceMul, Nat.reduceAdd, String.reduceEq]) rfl (hD0 rs r) ⟨rfl, rfl⟩
theorem eblock_all : ∀ N, N < 900000 → EBC N := by
  intro N
  induction N using Nat.strongRecOn with
  | ind N ih => intro hN; exact eblock_step hN (fun M h => ih M h (by omega)) (fun M h => round_step (ih M h (by omega)))
theorem eblock_sim {l : List Stmt} {rs rs' : RS} (h : szt l < 900000) (ha : argTs l) (h60 : rs.cs.length = 60) (hr : runB l rs = some rs') : SimX 62 [slT l] rs rs' := eblock_all _ h l rs rs' (Nat.le_refl _) ha h60 hr
end Go.Proofs.Ytphjldhdnmoolaa.A
/- The walks of some functions over the abstract machine. -/
namespace Go.Proofs.Ytphjldhdnmoolaa.A
open Go
/-! what is parsed has its form -/
mutual
def fitE : Expr → Prop
  | .mk k _ s a _ => fitEs a ∧ ((k = 1 ∧ a = []) ∨ (k = 2 ∧ a = []) ∨ ((k = 3 ∨ k = 4 ∨ k = 5) ∧ ∃ x, a = [x]) ∨ (k = 6 ∧ (∃ x y, a = [x, y]) ∧ level s ≠ 0))
def fitEs : List Expr → Prop
  | [] => True
  | e :: l => fitE e ∧ fitEs l
end
mutual
def fitT : Stmt → Prop
  | .mk k _ x n b e _ => fitEs x ∧ fitTs b ∧ fitTs e ∧ (0 ≤ n ∧ n < 9223372036854775808) ∧ ((k = 1 ∧ (∃ a, x = [a]) ∧ b = [] ∧ e = []) ∨ ((2 ≤ k ∧ k ≤ 5) ∧ (∃ a c, x = [a, c]) ∧ b = [] ∧ e = []) ∨ (k = 6 ∧ ∃ a, x = [a]) ∨ ((k = 7 ∨ k = 8) ∧ x = [] ∧ e = []))
def fitTs : List Stmt → Prop
  | [] => True
  | s :: l => fitT s ∧ fitTs l
end
structure FitD (d : Def) : Prop where
  needs : fitEs d.needs
  body : fitTs d.body
  give : fitEs d.give
  one : d.give = [] ∨ ∃ a, d.give = [a]
mutual
theorem fit_arg : ∀ s : Stmt, fitT s → argT s
  | .mk k s x n b e p, h => by
    obtain ⟨_, hb, he, hn, hk⟩ := h
    refine ⟨hn, fun h => ?_, fun h => ?_, fits_arg b hb, fits_arg e he⟩
    · rcases hk with ⟨_, ⟨a, rfl⟩, _⟩ | ⟨h2, _⟩ | ⟨_, a, rfl⟩ | ⟨h2, _⟩
      · exact ⟨a, [], rfl⟩
      · omega
      · exact ⟨a, [], rfl⟩
      · omega
    · rcases hk with ⟨_, ⟨a, rfl⟩, _⟩ | ⟨h2, ⟨a, c, rfl⟩, _⟩ | ⟨_, a, rfl⟩ | ⟨h2, _⟩
      · omega
      · exact ⟨a, c, [], rfl⟩
      · omega
      · omega
theorem fits_arg : ∀ l : List Stmt, fitTs l → argTs l
  | [], _ => trivial
  | s :: l, h => ⟨fit_arg s h.1, fits_arg l h.2⟩
end
theorem digV_lt (n : Int) (b : UInt8) : digV n b < 9223372036854775808 := by
  unfold digV; simp only [IntKind.wrap, IntKind.bits, IntKind.signed]; simp; omega
theorem numV_lt (s : Bytes) : numV s < 9223372036854775808 := by
  unfold numV
  generalize hl : L s = l
  have : ∀ (l : List UInt8) (n : Int), n < 9223372036854775808 → l.foldl digV n < 9223372036854775808 := by
    intro l
    induction l with
    | nil => intro n h; exact h
    | cons b l ih => intro n h; exact ih _ (digV_lt n b)
  exact this l 0 (by decide)
section
variable {l : List Tok}
theorem numP_lt (p : Int) : (numP l p).1 < 9223372036854775808 := by
  unfold numP; split
  · show (0 : Int) < _; decide
  · split
    · show (0 : Int) < _; decide
    · exact numV_lt _
theorem expr_fit : ∀ f, (∀ p least depth, 0 ≤ (exprF l f p least depth).2 → fitE (exprF l f p least depth).1) ∧ (∀ left p most least depth, fitE left → 0 ≤ (loopF l f left p most least depth).2 → fitE (loopF l f left p most least depth).1) ∧ (∀ p depth, 0 ≤ (smallF l f p depth).2 → fitE (smallF l f p depth).1) ∧ (∀ p depth a b, 0 ≤ (aroundF l f p depth a b).2 → fitE (aroundF l f p depth a b).1) := by
  intro f
  induction f with
  | zero => exact ⟨fun _ _ _ h => absurd h (by simp [exprF]), fun _ _ _ _ _ _ h => absurd h (by simp [loopF]), fun _ _ h => absurd h (by simp [smallF]), fun _ _ _ _ h => absurd h (by simp [aroundF])⟩
  | succ f ih =>
    obtain ⟨ihE, ihL, ihS, ihA⟩ := ih
    refine ⟨fun p least depth h => ?_, fun left p most least depth hl h => ?_, fun p depth h => ?_, fun p depth a b h => ?_⟩
    · rw [exprF] at h ⊢
      have h1 := (expr_took f).2.1 _ _ _ _ _ h
      exact ihL _ _ _ _ _ (ihS p depth h1.1) h
    · rw [loopF] at h ⊢
      split at h
      · rename_i hc
        rw [if_pos hc]
        split at h
        · rename_i hv; rw [if_pos hv]; exact hl
        · rename_i hv
          rw [if_neg hv]
          have h1 := (expr_took f).2.1 _ _ _ _ _ h
          have h2 := ihE _ _ _ h1.1
          refine ihL _ _ _ _ _ ⟨⟨hl, h2, trivial⟩, .inr (.inr (.inr ⟨rfl, ⟨_, _, rfl⟩, fun e => hv (.inr (.inr e))⟩))⟩ h
      · rename_i hc; rw [if_neg hc]; exact hl
    · rw [smallF] at h ⊢
      split at h
      · dsimp only at h; omega
      · rename_i hp
        rw [if_neg hp]
        split at h
        · rename_i hc
          rw [if_pos hc]
          split at h
          · unfold bad at h; dsimp only at h; omega
          · rename_i hd
            rw [if_neg hd]
            have h1 := ihS _ _ h
            refine ⟨⟨h1, trivial⟩, .inr (.inr (.inl ⟨?_, _, rfl⟩))⟩
            split <;> simp
        · rename_i hc
          rw [if_neg hc]
          split at h
          · rename_i hb
            rw [if_pos hb]
            have h1 := ihA _ _ _ _ h
            exact ⟨⟨h1, trivial⟩, .inr (.inr (.inl ⟨.inl rfl, _, rfl⟩))⟩
          · rename_i hb
            rw [if_neg hb]
            split at h
            · rename_i hb2
              rw [if_pos hb2]
              exact ihA _ _ _ _ h
            · rename_i hb2
              rw [if_neg hb2]
              split at h
              · rename_i hb3
                rw [if_pos hb3]
                exact ⟨trivial, .inl ⟨rfl, rfl⟩⟩
              · rename_i hb3
                rw [if_neg hb3]
                split at h
                · rename_i hb4
                  rw [if_pos hb4]
                  exact ⟨trivial, .inr (.inl ⟨rfl, rfl⟩)⟩
                · rename_i hb4
                  rw [if_neg hb4]
                  exact ⟨trivial, .inr (.inl ⟨rfl, rfl⟩)⟩
    · rw [aroundF] at h ⊢
      split at h
      · rename_i hc
        simp only [Bool.and_eq_true] at hc
        have := isP_nn hc.2
        unfold bad at h; dsimp only at h; omega
      · rename_i hc
        rw [if_neg hc]
        have h1 := eatP_took _ _ h
        exact ihE _ _ _ h1.1
theorem expr_fit1 {p least depth : Int} (h : 0 ≤ (expr l p least depth).2) : fitE (expr l p least depth).1 := (expr_fit _).1 p least depth h
theorem around_fit1 {p depth : Int} {a b : Bytes} (h : 0 ≤ (around l p depth a b).2) : fitE (around l p depth a b).1 := (expr_fit _).2.2.2 p depth a b h
theorem cell_fit (p depth : Int) (h : 0 ≤ (cellS l p depth).2) : fitT (cellS l p depth).1 := by
  unfold cellS at h ⊢
  dsimp only at h ⊢
  split at h
  · rename_i hs
    rw [if_pos hs]
    dsimp only at h ⊢
    have h1 := eatP_took _ _ h
    have h2 : 0 ≤ (around l ((around l p depth qLB qRB).2 + 1) depth qLB qRB).2 := by
      have h3 := h1.1
      have hp := isP_nn hs
      unfold swapEnd at h3
      split at h3
      · unfold bad at h3; omega
      · exact h3
    exact ⟨⟨around_fit1 (isP_nn hs), around_fit1 h2, trivial⟩, trivial, trivial, by omega, .inr (.inl ⟨by omega, ⟨_, _, rfl⟩, rfl, rfl⟩)⟩
  · rename_i hs
    rw [if_neg hs]
    split at h
    · rename_i hs2
      rw [if_pos hs2]
      dsimp only at h ⊢
      have h1 := eatP_took _ _ h
      have h5 : 0 ≤ (around l p depth qLB qRB).2 := by
        simp only [Bool.or_eq_true] at hs2
        rcases hs2 with h | h | h <;> exact isP_nn h
      refine ⟨⟨around_fit1 h5, expr_fit1 h1.1, trivial⟩, trivial, trivial, by omega, .inr (.inl ⟨?_, ⟨_, _, rfl⟩, rfl, rfl⟩)⟩
      split
      · omega
      · split <;> omega
    · dsimp only at h
      split at h
      · omega
      · unfold bad at h; omega
theorem fitTs_app (a : List Stmt) (x : Stmt) : fitTs (a ++ [x]) ↔ fitTs a ∧ fitT x := by
  induction a with
  | nil => simp [fitTs]
  | cons y a ih => simp only [List.cons_append, fitTs, ih, and_assoc]
theorem fitEs_app (a : List Expr) (x : Expr) : fitEs (a ++ [x]) ↔ fitEs a ∧ fitE x := by
  induction a with
  | nil => simp [fitEs]
  | cons y a ih => simp only [List.cons_append, fitEs, ih, and_assoc]
theorem stmt_fit (hn : numsOK l) : ∀ f, (∀ p depth, 0 ≤ p → 0 ≤ (stmtF l f p depth).2 → fitT (stmtF l f p depth).1) ∧ (∀ p depth, 0 ≤ (blockF l f p depth).2 → fitTs (blockF l f p depth).1) ∧ (∀ acc p depth, fitTs acc → 0 ≤ (loopB l f acc p depth).2 → fitTs (loopB l f acc p depth).1) := by
  intro f
  induction f with
  | zero => exact ⟨fun _ _ _ h => absurd h (by simp [stmtF]), fun _ _ h => absurd h (by simp [blockF]), fun _ _ _ _ h => absurd h (by simp [loopB])⟩
  | succ f ih =>
    obtain ⟨ihS, ihB, ihL⟩ := ih
    refine ⟨fun p depth hp0 h => ?_, fun p depth h => ?_, fun acc p depth hf h => ?_⟩
    · rw [stmtF] at h ⊢
      split at h
      · rename_i hc; rw [if_pos hc]; exact cell_fit p depth h
      · rename_i hc
        rw [if_neg hc]
        split at h
        · rename_i hs
          rw [if_pos hs]
          have h1 := eatP_took _ _ h
          exact ⟨⟨expr_fit1 h1.1, trivial⟩, trivial, trivial, by omega, .inl ⟨rfl, ⟨_, rfl⟩, rfl, rfl⟩⟩
        · rename_i hs
          rw [if_neg hs]
          split at h
          · rename_i hs2
            rw [if_pos hs2]
            split at h
            · rename_i he
              rw [if_pos he]
              have h1 := ihB _ _ h
              have h2 := ihB _ _ (isP_nn he)
              have h3 := ((stmt_took hn f).2.1 _ _ (isP_nn he)).1
              exact ⟨⟨expr_fit1 h3, trivial⟩, h2, h1, by omega, .inr (.inr (.inl ⟨rfl, _, rfl⟩))⟩
            · rename_i he
              rw [if_neg he]
              have h2 := ihB _ _ h
              have h3 := ((stmt_took hn f).2.1 _ _ h).1
              exact ⟨⟨expr_fit1 h3, trivial⟩, h2, trivial, by omega, .inr (.inr (.inl ⟨rfl, _, rfl⟩))⟩
          · rename_i hs2
            rw [if_neg hs2]
            split at h
            · rename_i hs3
              rw [if_pos hs3]
              have h2 := ihB _ _ h
              have h3 := ((stmt_took hn f).2.1 _ _ h).1
              have h8 := numP_nn hn _ h3
              exact ⟨trivial, h2, trivial, ⟨h8, numP_lt _⟩, .inr (.inr (.inr ⟨.inl rfl, rfl, rfl⟩))⟩
            · unfold bad at h; dsimp only at h; exfalso
              rename_i hx
              omega
    · rw [blockF] at h ⊢
      split at h
      · rename_i hc
        simp only [Bool.and_eq_true] at hc
        have := isP_nn hc.2
        unfold bad at h; dsimp only at h; omega
      · rename_i hc
        rw [if_neg hc]
        exact ihL _ _ _ trivial h
    · rw [loopB] at h ⊢
      split at h
      · rename_i hc
        rw [if_pos hc]
        simp only [Bool.and_eq_true, decide_eq_true_eq] at hc
        have hnn : 0 ≤ (stmtF l f p (depth + 1)).2 := loopB_nn h
        exact ihL _ _ _ ((fitTs_app _ _).2 ⟨hf, ihS p (depth + 1) hc.1 hnn⟩) h
      · rename_i hc
        rw [if_neg hc]
        exact hf
theorem loopN_fit : ∀ f acc p, fitEs acc → 0 ≤ (loopN l f acc p).2 → fitEs (loopN l f acc p).1
  | 0, _, _, _, h => absurd h (by simp [loopN])
  | f + 1, acc, p, ha, h => by
    rw [loopN] at h ⊢
    split at h
    · rename_i hc
      rw [if_pos hc]
      have h1 := loopN_took f _ _ h
      have h2 := eatP_took _ _ h1.1
      exact loopN_fit f _ _ ((fitEs_app _ _).2 ⟨ha, expr_fit1 h2.1⟩) h
    · rename_i hc; rw [if_neg hc]; exact ha
theorem loopD_fit (hn : numsOK l) : ∀ f acc p, fitTs acc → 0 ≤ (loopD l f acc p).2 → fitTs (loopD l f acc p).1
  | 0, _, _, _, h => absurd h (by simp [loopD])
  | f + 1, acc, p, ha, h => by
    rw [loopD] at h ⊢
    split at h
    · rename_i hc
      rw [if_pos hc]
      simp only [Bool.and_eq_true, decide_eq_true_eq] at hc
      exact loopD_fit hn f _ _ ((fitTs_app _ _).2 ⟨ha, (stmt_fit hn _).1 p 1 hc.1 (loopD_nn h)⟩) h
    · rename_i hc; rw [if_neg hc]; exact ha
theorem defP_fit (hn : numsOK l) (h : 0 ≤ (defP l).2) : FitD (defP l).1 := by
  unfold defP at h ⊢
  dsimp only at h ⊢
  split at h
  · rename_i hc
    rw [if_pos hc]
    dsimp only at h ⊢
    have h1 := eatP_took _ _ h
    have h2 := eatP_took _ _ h1.1
    have h5 := loopD_nn (isP_nn hc)
    exact ⟨loopN_fit _ _ _ trivial h5, loopD_fit hn _ _ _ trivial (isP_nn hc), ⟨expr_fit1 h2.1, trivial⟩, .inr ⟨_, rfl⟩⟩
  · rename_i hc
    rw [if_neg hc]
    dsimp only at h ⊢
    have h1 := eatP_took _ _ h
    have h5 := loopD_nn h1.1
    exact ⟨loopN_fit _ _ _ trivial h5, loopD_fit hn _ _ _ trivial h1.1, trivial, .inl rfl⟩
end
theorem parse_fit {s : Bytes} (h : (parse s).2.1 = 0) : FitD (parse s).1 := by
  unfold parse at h ⊢
  dsimp only at h ⊢
  split at h
  · rename_i hc; exact absurd h hc
  · rename_i hc
    rw [if_neg hc]
    have hc' : (tokens s).2.1 = 0 := by simpa using hc
    split at h
    · cases h
    · rename_i hp
      rw [if_neg hp]
      obtain ⟨l0, e1, e2, e3, e4⟩ := tokens_ok hc'
      have hnum : numsOK (tokens s).1 := by
        intro p hk
        have hq : numQ (tk (tokens s).1 p) := by
          unfold tk
          rw [List.getD_eq_getElem?_getD]
          cases hg : (tokens s).1[p.toNat]? with
          | none => intro hk; cases hk
          | some x =>
            have hm := List.mem_of_getElem? hg
            simp only [Option.getD_some]
            unfold tokens at hm
            split at hm
            · simp at hm
            · exact toksF_num s _ _ _ (by simp) x hm
        obtain ⟨q1, q2⟩ := hq hk
        rw [(numV_nat q1 q2).1]
        omega
      have hT : Toks (tokens s).1 := by rw [e1]; exact Toks.of rfl e2 e4.kind
      have hpos : 0 ≤ (defP (tokens s).1).2 := by
        have h0 : fixP (tokens s).1 (defP (tokens s).1).2 = (defP (tokens s).1).2 ∨ fixP (tokens s).1 (defP (tokens s).1).2 = bad (defP (tokens s).1).2 := by unfold fixP; split <;> simp
        rcases h0 with h0 | h0
        · rw [h0] at hp; omega
        · exfalso
          apply hp
          by_cases hn : 0 ≤ (defP (tokens s).1).2
          · rw [h0]; unfold bad; omega
          · have : fixP (tokens s).1 (defP (tokens s).1).2 = (defP (tokens s).1).2 := by unfold fixP; simp [hn]
            rw [this]; omega
      exact defP_fit hnum hpos
end Go.Proofs.Ytphjldhdnmoolaa.A
/- The walks of some functions over the abstract machine. -/
namespace Go.Proofs.Ytphjldhdnmoolaa.A
open Go
/-! eval's Run -/
def putAll : List Bytes → List Int → List Ent × Nat → List Ent × Nat
  | s :: l, a :: b, m => putAll l b (putM s a m.1 m.2)
  | _, _, m => m
def zeros : List Int := List.replicate 60 0
def needsP : List Expr → RS → Option Bool
  | [], _ => some true
  | e :: l, rs => (valE e rs).bind fun v => if v = 0 then some false else needsP l rs
def giveP : List Expr → Int → RS → Option Int
  | [], n, _ => some n
  | e :: l, _, rs => (valE e rs).bind fun v => giveP l v rs
structure RunR where
  lsn : Int
  cs : List Int
  n : Int
  e : Int
abbrev fault0 (e : Int) : RunR := ⟨0, zeros, 0, e⟩
def rs0 (d : Def) (lsn : Int) (cs args : List Int) : RS := ⟨lsn, cs, (putAll d.params args ([], 0)).1, (putAll d.params args ([], 0)).2⟩
def runP (d : Def) (lsn : Int) (cs args : List Int) : Option RunR :=
  if (check d).2 ≠ none then some (fault0 13)
  else if args.length ≠ d.params.length then some (fault0 2)
  else (needsP d.needs (rs0 d lsn cs args)).bind fun ok => if ok then (runB d.body (rs0 d lsn cs args)).bind fun r => (giveP d.give 0 r).map fun n => ⟨r.lsn, r.cs, n, 0⟩ else some (fault0 12)
def errE (e : Int) : IV := if e = 0 then .v .nilIface else .iface 76 (ii e)
abbrev runI (r : RunR) : IV := .tup [.agg (pgI r.lsn r.cs), ii r.n, errE r.e]
abbrev zP : List IV := pgI 0 zeros
set_option maxRecDepth 100000 in
set_option maxHeartbeats 4000000 in
theorem run_sim (m : Mem) (d : Def) (hd : DefOK d) (ha : argTs d.body) (lsn : Int) (cs : List Int) (h60 : cs.length = 60) (args : List Int) (r : RunR) (hr : runP d lsn cs args = some r) :
    Sim 30 [.agg (encD d), .agg (pgI lsn cs), .sl .sh args.length (args.map (IV.v <| .int .i64 ·))] m (fun x m' => x = runI r ∧ m' = m) := by
  have hck := fun m => check_sim m d hd
  have hca := fun m => calls_sim m d args
  unfold runP at hr
  generalize check d = X at hck hr
  obtain ⟨inf, q⟩ := X
  refine Sim.ofS 102 [.cell 6 50, .tmp 7, .tmp 8] Try.func30 rfl rfl rfl (by simp) fun wr => ?_
  simp only [go_sem, Nat.reduceEqDiff, Nat.reduceBEq, Int.reduceToNat, Int.reduceLT, Int.reduceLE, Int.reduceEq, Nat.reduceLeDiff, Nat.reduceLT, Nat.reduceMul, Nat.reduceAdd, String.reduceEq]
  refine TS.seq (TS.of [3, 4] fun Q hQ => ?_)
  simp only [go_sem, Nat.reduceEqDiff, Nat.reduceBEq, Int.reduceToNat, Int.reduceLT, Int.reduceLE, Int.reduceEq, Nat.reduceLeDiff, Nat.reduceLT, Nat.reduceMul, Nat.reduceAdd, String.reduceEq, encD, ints_one, ints_sh]
  refine hQ .normal _ ?_; clear hQ Q
  refine TS.seq (TS.of [3, 4] fun Q hQ => ?_)
  simp only [go_sem, Nat.reduceEqDiff, Nat.reduceBEq, Int.reduceToNat, Int.reduceLT, Int.reduceLE, Int.reduceEq, Nat.reduceLeDiff, Nat.reduceLT, Nat.reduceMul, Nat.reduceAdd, String.reduceEq]
  refine cal_eq (hck _) ?_
  refine TS_cases q (fun hq0 => ?_) (fun pq hq0 => ?_)
  all_goals subst hq0
  · simp only [go_sem, Nat.reduceEqDiff, Nat.reduceBEq, Int.reduceToNat, Int.reduceLT, Int.reduceLE, Int.reduceEq, Nat.reduceLeDiff, Nat.reduceLT, Nat.reduceMul, Nat.reduceAdd, String.reduceEq, errI_none]
    refine hQ .normal _ ?_; clear hQ Q
    rw [if_neg (by simp)] at hr
    by_cases hlen : args.length = d.params.length
    · rw [if_neg (by simpa using hlen)] at hr
      refine TS.seq (TS.mono (Q := fun e s => e = .normal ∧ (s.t 2 = .sl .sh args.length (args.map (IV.v <| .int .i64 ·)) ∧ s.t 3 = .ref (encD d) ∧ s.t 4 = .ref (pgI lsn cs) ∧ s.t 6 = .ptr m.objs.length 0) ∧ s.m = ⟨m.objs ++ [.cells zP, .cells (encI inf)], m.rows⟩) ?_ ?_)
      · refine TS.of [3, 4] fun Q hQ => ?_
        simp only [go_sem, Nat.reduceEqDiff, Nat.reduceBEq, Int.reduceToNat, Int.reduceLT, Int.reduceLE, Int.reduceEq, Nat.reduceLeDiff, Nat.reduceLT, Nat.reduceMul, Nat.reduceAdd, String.reduceEq]
        refine cal_eq (hca _) ?_
        rw [if_pos hlen]
        simp only [go_sem, Nat.reduceEqDiff, Nat.reduceBEq, Int.reduceToNat, Int.reduceLT, Int.reduceLE, Int.reduceEq, Nat.reduceLeDiff, Nat.reduceLT, Nat.reduceMul, Nat.reduceAdd, String.reduceEq]
        refine hQ .normal _ ?_; clear hQ Q
        refine ⟨rfl, ?_, rfl⟩
        simp [upd_apply, argsT, encD]
      rintro e s ⟨rfl, ⟨i2, i3, i4, i6⟩, hm⟩
      have hsize := hd.size
      have hpar := hd.params
      generalize hK : putAll d.params args ([], 0) = K
      refine TS.seq (TS.of [3, 4] fun Q hQ => ?_)
      simp only [go_sem, Nat.reduceEqDiff, Nat.reduceBEq, Int.reduceToNat, Int.reduceLT, Int.reduceLE, Int.reduceEq, Nat.reduceLeDiff, Nat.reduceLT, Nat.reduceMul, Nat.reduceAdd, String.reduceEq, i2, i3, i4, i6, hm]
      refine hQ .normal _ ?_; clear hQ Q
      refine TS.seq (TS.mono (Q := fun e s => e = .normal ∧ (s.t 3 = .ref (encD d) ∧ s.t 4 = .ref (pgI lsn cs) ∧ s.t 6 = .ptr m.objs.length 0 ∧ s.t 12 = .map (m.objs.length + (1 + 1))) ∧ s.m = ⟨m.objs ++ [.cells zP, .cells (encI inf), .map (encM K.1) K.2], m.rows⟩) ?_ ?_)
      · refine TS.seq (TS.of [3, 4] fun Q hQ => ?_)
        simp only [go_sem, Nat.reduceEqDiff, Nat.reduceBEq, Int.reduceToNat, Int.reduceLT, Int.reduceLE, Int.reduceEq, Nat.reduceLeDiff, Nat.reduceLT, Nat.reduceMul, Nat.reduceAdd, String.reduceEq, i3, encD]
        refine hQ .normal _ ?_; clear hQ Q
        refine TS.block (TS.loop (α := Nat × (List Ent × Nat)) (fun x => [(2, .sl .sh args.length (args.map (IV.v <| .int .i64 ·))), (3, .ref (encD d)), (4, .ref (pgI lsn cs)), (6, .ptr m.objs.length 0), (12, .map (m.objs.length + (1 + 1))), (39, slS d.params), (40, ii d.params.length), (41, ii x.1)]) (fun x => ⟨m.objs ++ [.cells zP, .cells (encI inf), .map (encM x.2.1) x.2.2], m.rows⟩) (fun x => x.1 ≤ d.params.length ∧ putAll (d.params.drop x.1) (args.drop x.1) x.2 = K) (fun x => d.params.length - x.1) (0, ([], 0)) (by simp) ⟨by simp [Has, upd_apply, i2, i3, i4, i6, encD], rfl, by simp [hK]⟩ ?_)
        rintro ⟨k, M⟩ st hH hm2 ⟨hk, hrest⟩
        dsimp only at hH hm2 hk hrest
        simp only [Has, List.mem_cons, List.not_mem_nil, or_false, forall_eq_or_imp, forall_eq] at hH; obtain ⟨j2, j3, j4, j6, j12, j39, j40, j41⟩ := hH
        by_cases hlt : k < d.params.length
        · obtain ⟨p, hp⟩ : ∃ p, d.params.drop k = p :: d.params.drop (k + 1) := ⟨_, List.drop_eq_getElem_cons hlt⟩
          obtain ⟨a, hag⟩ : ∃ a, args.drop k = a :: args.drop (k + 1) := ⟨_, List.drop_eq_getElem_cons (by omega)⟩
          have hp' : (d.params.map (IV.v <| .string ·)).drop k = ss p :: (d.params.drop (k + 1)).map (IV.v <| .string ·) := by rw [← List.map_drop, hp]; rfl
          have ha' : (args.map (IV.v <| .int .i64 ·)).drop k = ii a :: (args.drop (k + 1)).map (IV.v <| .int .i64 ·) := by rw [← List.map_drop, hag]; rfl
          have hl1 : k < (d.params.map (IV.v <| .string ·)).length := by rw [List.length_map]; exact hlt
          have hl2 : k < (args.map (IV.v <| .int .i64 ·)).length := by rw [List.length_map]; omega
          have hl3 : k < args.length := by omega
          have hw := wrap_succ hlt (by omega)
          rw [hp, hag, putAll] at hrest
          refine TS.of [3, 4] fun Q hQ => ?_
          simp only [go_sem, Nat.reduceEqDiff, Nat.reduceBEq, Int.reduceToNat, Int.reduceLT, Int.reduceLE, Int.reduceEq, Nat.reduceLeDiff, Nat.reduceLT, Nat.reduceMul, Nat.reduceAdd, String.reduceEq, j2, j3, j4, j6, j12, j39, j40, j41, hm2, hlt, hp', ha', hl1, hl2, hl3, Mem.map_, mlook_enc, mupd_enc, hw]
          refine hQ .normal _ ?_; clear hQ Q
          refine ⟨m.objs.length + 3, m.rows.length, (k + 1, putM p a M.1 M.2), DropW.loc m.objs [.cells zP, .cells (encI inf), .map (encM M.1) M.2] [.cells zP, .cells (encI inf), .map (encM (putM p a M.1 M.2).1) (putM p a M.1 M.2).2] [] _ _ _ (Nat.le_refl _) (by simp [IObj.np, npL, IV.np, np_ints]) (Nat.le_refl _) (by simp), ?_, ⟨hlt, hrest⟩, by dsimp only; omega⟩
          simp [upd_apply, j3, j4, j6, j12, j2, j39, j40, IV.np, np_sh, npS, npEs, npTs, np_ints, npL]
        · refine TS.of [3, 4] fun Q hQ => ?_
          simp only [go_sem, Nat.reduceEqDiff, Nat.reduceBEq, Int.reduceToNat, Int.reduceLT, Int.reduceLE, Int.reduceEq, Nat.reduceLeDiff, Nat.reduceLT, Nat.reduceMul, Nat.reduceAdd, String.reduceEq, j2, j3, j4, j6, j12, j39, j40, j41, hm2, hlt]
          refine hQ (.exit 0) _ ?_; clear hQ Q
          rw [List.drop_eq_nil_of_le (by omega), putAll] at hrest
          · subst hrest
            exact ⟨rfl, by simp [upd_apply, j3, j4, j6, j12], rfl⟩
          · simp
      clear i2 i3 i4 i6 hm s
      rintro e s ⟨rfl, ⟨i3, i4, i6, i12⟩, hm⟩
      have h58 : 58 ≤ (cs.map (IV.v <| .int .i64 ·)).length := by rw [List.length_map]; omega
      have t60 : (cs.map (IV.v <| .int .i64 ·)).take 60 = cs.map (IV.v <| .int .i64 ·) := List.take_of_length_le (by rw [List.length_map]; omega)
      have l60 : (cs.map (IV.v <| .int .i64 ·)).length = 60 := by rw [List.length_map]; exact h60
      have hcl : Sim 60 [.map (m.objs.length + 2)] ⟨m.objs ++ [.cells zP, .cells (encI inf), .map (encM K.1) K.2], m.rows⟩ (fun r m' => r = .map (m.objs.length + 3) ∧ m' = ⟨m.objs ++ [.cells zP, .cells (encI inf), .map (encM K.1) K.2, .map (encM K.1) K.2], m.rows⟩) := by
        have := clone_sim ⟨m.objs ++ [.cells zP, .cells (encI inf), .map (encM K.1) K.2], m.rows⟩ (m.objs.length + 2) (encM K.1) K.2 (by simp)
        simpa only [List.length_append, List.length_cons, List.length_nil, List.append_assoc, List.cons_append, List.nil_append] using this
      refine TS.seq (TS.of [3, 4] fun Q hQ => ?_)
      simp only [go_sem, Nat.reduceEqDiff, Nat.reduceBEq, Int.reduceToNat, Int.reduceLT, Int.reduceLE, Int.reduceEq, Nat.reduceLeDiff, Nat.reduceLT, Nat.reduceMul, Nat.reduceAdd, String.reduceEq, i3, i4, i6, i12, hm]
      refine drn_of ⟨[53], [], []⟩ [0, 0, 2, 7, 15, 31] (by kernel_rfl) ?_
      simp only [go_sem, Nat.reduceEqDiff, Nat.reduceBEq, Int.reduceToNat, Int.reduceLT, Int.reduceLE, Int.reduceEq, Nat.reduceLeDiff, Nat.reduceLT, Nat.reduceMul, Nat.reduceAdd, String.reduceEq, hm, i4, i12, t60, l60, h58, ints_sh, ints_one]
      refine cald_eq hcl ?_
      have t61 := fun t => take61 h60 t
      have d62 := fun a t => drop62 h60 a t
      simp only [go_sem, Nat.reduceEqDiff, Nat.reduceBEq, Int.reduceToNat, Int.reduceLT, Int.reduceLE, Int.reduceEq, Nat.reduceLeDiff, Nat.reduceLT, Nat.reduceMul, Nat.reduceAdd, String.reduceEq, l60, ints_sh, ints_one, t61, d62, List.all_append, List.map_append, List.map_cons, List.map_nil]
      refine hQ .normal _ ?_; clear hQ Q
      obtain ⟨B, hB⟩ : ∃ B, B = m.objs ++ [.cells zP, .cells (encI inf), .map (encM K.1) K.2] := ⟨_, rfl⟩
      have hBl : B.length = m.objs.length + 3 := by rw [hB]; simp
      have hrs : rs0 d lsn cs args = ⟨lsn, cs, K.1, K.2⟩ := by unfold rs0; rw [hK]
      rw [hrs] at hr
      generalize hI : (⟨lsn, cs, K.1, K.2⟩ : RS) = I at hr
      have hI60 : I.cs.length = 60 := by rw [← hI]; exact h60
      simp only [Option.bind_eq_some_iff] at hr
      obtain ⟨ok, hok, hr⟩ := hr
      refine TS.seq (TS.seq (TS.mono (Q := fun e s => e = .normal ∧ (s.t 3 = .ref (encD d) ∧ s.t 6 = .ptr m.objs.length 0 ∧ s.t 15 = .ptr (B.length + 1) 0 ∧ s.t 59 = slE d.needs ∧ s.t 60 = ii d.needs.length ∧ s.t 61 = ii 0) ∧ s.m = ⟨RM B I [], m.rows⟩) ?_ ?_))
      · refine TS.of [3, 4] fun Q hQ => ?_
        simp only [go_sem, Nat.reduceEqDiff, Nat.reduceBEq, Int.reduceToNat, Int.reduceLT, Int.reduceLE, Int.reduceEq, Nat.reduceLeDiff, Nat.reduceLT, Nat.reduceMul, Nat.reduceAdd, String.reduceEq, i3, encD]
        refine hQ .normal _ ?_
        refine ⟨rfl, ?_, ?_⟩
        · rw [hBl]; simp [upd_apply, i3, i6, encD]
        · rw [← hI, RM, hBl, hB]; simp
      clear i3 i4 i6 i12 hm s
      rintro e s ⟨rfl, ⟨i3, i6, i15, i59, i60, i61⟩, hm⟩
      have hP : ∀ (rs : RS) (R : List IObj), (⟨RM B rs R, m.rows⟩ : Mem) = ⟨m.objs ++ (.cells zP :: .cells (encI inf) :: .map (encM K.1) K.2 :: .map (encM rs.kn) rs.kc :: .cells (cellsR B.length rs) :: R), m.rows⟩ := fun rs R => by
        simp only [RM]; conv => lhs; rw [hB]
        simp [hB]
      have hend : ∀ (x : RunR) (R : List IObj), DropW m m.objs.length m.rows.length ⟨m.objs ++ (.cells (pgI x.lsn x.cs) :: R), m.rows⟩ m := fun x R => DropW.tail0 _ rfl
      have hes : ∀ (y : Expr) (ly : List Expr), encEs (y :: ly) = [ii y.k, ii y.n, ss y.s, slE y.a, ii y.p] ++ encEs ly := fun y ly => by rw [encEs, encE_eq]
      refine TS.block (TS.loop (α := Nat) (fun k => [(3, .ref (encD d)), (6, .ptr m.objs.length 0), (15, .ptr (B.length + 1) 0), (59, slE d.needs), (60, ii d.needs.length), (61, ii k)]) (fun k => ⟨RM B I [], m.rows⟩) (fun k => k ≤ d.needs.length ∧ needsP (d.needs.drop k) I = some ok) (fun k => d.needs.length - k) 0 (by simp) ⟨by simp [Has, i3, i6, i15, i59, i60, i61], hm, by simp [hok]⟩ ?_)
      rintro k st hH hm2 ⟨hk, hrest⟩
      simp only [Has, List.mem_cons, List.not_mem_nil, or_false, forall_eq_or_imp, forall_eq] at hH; obtain ⟨j3, j6, j15, j59, j60, j61⟩ := hH
      by_cases hlt : k < d.needs.length
      · obtain ⟨x, hx⟩ : ∃ x, d.needs[k]? = some x := ⟨_, List.getElem?_eq_getElem hlt⟩
        have hdr : d.needs.drop k = x :: d.needs.drop (k + 1) := by rw [List.drop_eq_getElem_cons hlt]; congr 1; exact Option.some.inj ((List.getElem?_eq_getElem hlt).symm.trans hx)
        have hll := szs_len d.needs
        have hat := encEs_at hx
        have hlt5 : k * 5 < (encEs d.needs).length := by rw [encEs_length]; omega
        have hw := wrap_succ hlt (by omega)
        have hszx := szE_at hx
        rw [hdr, needsP, Option.bind_eq_some_iff] at hrest
        obtain ⟨v, hv, hrest⟩ := hrest
        have hsub := value_sim (e := x) (rs := I) (by omega) hI60 hv B [.cells (encE x)] m.rows
        rw [encE_eq] at hsub
        by_cases v0 : v = 0
        · rw [if_pos v0, Option.some.injEq] at hrest
          subst hrest
          simp only [Bool.false_eq_true, if_false, Option.some.injEq] at hr
          subst hr
          refine TS.of [3, 4] fun Q hQ => ?_
          simp only [go_sem, Nat.reduceEqDiff, Nat.reduceBEq, Int.reduceToNat, Int.reduceLT, Int.reduceLE, Int.reduceEq, Nat.reduceLeDiff, Nat.reduceLT, Nat.reduceMul, Nat.reduceAdd, String.reduceEq, j3, j6, j15, j59, j60, j61, hm2, hlt, hat, hlt5]
          refine cal_eq hsub ?_
          rw [hP]
          have z60 : 60 ≤ (zeros.map (IV.v <| .int .i64 ·)).length := by simp [zeros]
          simp only [go_sem, Nat.reduceEqDiff, Nat.reduceBEq, Int.reduceToNat, Int.reduceLT, Int.reduceLE, Int.reduceEq, Nat.reduceLeDiff, Nat.reduceLT, Nat.reduceMul, Nat.reduceAdd, String.reduceEq, v0, j6, z60]
          refine hQ .ret _ ?_; clear hQ Q; refine post_ret _ _ (runI (fault0 12)) ?_ ?_ (DropW.tail0 _ rfl) ⟨rfl, rfl⟩
          · simp only [go_sem, Nat.reduceEqDiff, Nat.reduceBEq, Int.reduceToNat, Int.reduceLT, Int.reduceLE, Int.reduceEq, Nat.reduceLeDiff, Nat.reduceLT, Nat.reduceMul, Nat.reduceAdd, String.reduceEq, j6]
            rfl
          · rfl
        · rw [if_neg v0] at hrest
          refine TS.of [3, 4] fun Q hQ => ?_
          simp only [go_sem, Nat.reduceEqDiff, Nat.reduceBEq, Int.reduceToNat, Int.reduceLT, Int.reduceLE, Int.reduceEq, Nat.reduceLeDiff, Nat.reduceLT, Nat.reduceMul, Nat.reduceAdd, String.reduceEq, j3, j6, j15, j59, j60, j61, hm2, hlt, hat, hlt5]
          refine cal_eq hsub ?_
          simp only [go_sem, Nat.reduceEqDiff, Nat.reduceBEq, Int.reduceToNat, Int.reduceLT, Int.reduceLE, Int.reduceEq, Nat.reduceLeDiff, Nat.reduceLT, Nat.reduceMul, Nat.reduceAdd, String.reduceEq, v0, j3, j6, j15, j59, j60, j61, hw]
          refine hQ .normal _ ?_; clear hQ Q
          have hDk := DropW.rk B I I [] [.cells (encE x)] m.rows m.rows m.rows (Nat.le_refl _) (by simp)
          rw [encE_eq] at hDk
          refine ⟨_, _, k + 1, hDk, ?_, ⟨hlt, hrest⟩, by omega⟩
          simp [upd_apply, j3, j6, j15, j59, j60, IV.np, np_sh, npS, npEs, npTs, npL] <;> omega
      · refine TS.of [3, 4] fun Q hQ => ?_
        simp only [go_sem, Nat.reduceEqDiff, Nat.reduceBEq, Int.reduceToNat, Int.reduceLT, Int.reduceLE, Int.reduceEq, Nat.reduceLeDiff, Nat.reduceLT, Nat.reduceMul, Nat.reduceAdd, String.reduceEq, j3, j6, j15, j59, j60, j61, hm2, hlt]
        refine hQ (.exit 2) _ ?_; clear hQ Q
        rw [List.drop_eq_nil_of_le (by omega), needsP, Option.some.injEq] at hrest
        subst hrest
        simp only [if_true, Option.bind_eq_some_iff, Option.map_eq_some_iff] at hr
        obtain ⟨rs1, hrs1, n, hn, rfl⟩ := hr
        have h61 : rs1.cs.length = 60 := by rw [runB_len _ _ _ hrs1]; exact hI60
        have hblk := eblock_sim (by omega) ha hI60 hrs1 B [] m.rows
        have hll := szs_len d.give
        refine TS.seq (TS.of [3, 4] fun Q hQ => ?_)
        simp only [go_sem, Nat.reduceEqDiff, Nat.reduceBEq, Int.reduceToNat, Int.reduceLT, Int.reduceLE, Int.reduceEq, Nat.reduceLeDiff, Nat.reduceLT, Nat.reduceMul, Nat.reduceAdd, String.reduceEq, j3, j6, j15, encD]
        refine cal_eq hblk ?_
        simp only [go_sem, Nat.reduceEqDiff, Nat.reduceBEq, Int.reduceToNat, Int.reduceLT, Int.reduceLE, Int.reduceEq, Nat.reduceLeDiff, Nat.reduceLT, Nat.reduceMul, Nat.reduceAdd, String.reduceEq]
        refine hQ .normal _ ?_; clear hQ Q
        refine TS.seq (TS.of [3, 4] fun Q hQ => ?_)
        simp only [go_sem, Nat.reduceEqDiff, Nat.reduceBEq, Int.reduceToNat, Int.reduceLT, Int.reduceLE, Int.reduceEq, Nat.reduceLeDiff, Nat.reduceLT, Nat.reduceMul, Nat.reduceAdd, String.reduceEq]
        refine hQ .normal _ ?_; clear hQ Q
        refine TS.seq (TS.seq (TS.of [3, 4] fun Q hQ => ?_))
        simp only [go_sem, Nat.reduceEqDiff, Nat.reduceBEq, Int.reduceToNat, Int.reduceLT, Int.reduceLE, Int.reduceEq, Nat.reduceLeDiff, Nat.reduceLT, Nat.reduceMul, Nat.reduceAdd, String.reduceEq, j3, encD]
        refine hQ .normal _ ?_; clear hQ Q
        refine TS.block (TS.loop (α := Nat × Int) (fun x => [(6, .ptr m.objs.length 0), (15, .ptr (B.length + 1) 0), (18, ii x.2), (77, slE d.give), (78, ii d.give.length), (79, ii x.1)]) (fun _ => ⟨RM B rs1 [], m.rows⟩) (fun x => x.1 ≤ d.give.length ∧ giveP (d.give.drop x.1) x.2 rs1 = some n) (fun x => d.give.length - x.1) (0, 0) (by simp) ⟨by simp [Has, upd_apply, j6, j15], rfl, by simp [hn]⟩ ?_)
        clear hm2 j3 j6 j15 j59 j60 j61 hlt hk st k
        rintro ⟨k, nk⟩ st hH hm2 ⟨hk, hrest⟩
        dsimp only at hH hm2 hk hrest
        simp only [Has, List.mem_cons, List.not_mem_nil, or_false, forall_eq_or_imp, forall_eq] at hH; obtain ⟨j6, j15, j18, j77, j78, j79⟩ := hH
        by_cases hlt : k < d.give.length
        · obtain ⟨x, hx⟩ : ∃ x, d.give[k]? = some x := ⟨_, List.getElem?_eq_getElem hlt⟩
          have hdr : d.give.drop k = x :: d.give.drop (k + 1) := by rw [List.drop_eq_getElem_cons hlt]; congr 1; exact Option.some.inj ((List.getElem?_eq_getElem hlt).symm.trans hx)
          have hat := encEs_at hx
          have hlt5 : k * 5 < (encEs d.give).length := by rw [encEs_length]; omega
          have hw := wrap_succ hlt (by omega)
          have hszx := szE_at hx
          rw [hdr, giveP, Option.bind_eq_some_iff] at hrest
          obtain ⟨v, hv, hrest⟩ := hrest
          have hsub := value_sim (e := x) (rs := rs1) (by omega) h61 hv B [.cells (encE x)] m.rows
          rw [encE_eq] at hsub
          refine TS.of [3, 4] fun Q hQ => ?_
          simp only [go_sem, Nat.reduceEqDiff, Nat.reduceBEq, Int.reduceToNat, Int.reduceLT, Int.reduceLE, Int.reduceEq, Nat.reduceLeDiff, Nat.reduceLT, Nat.reduceMul, Nat.reduceAdd, String.reduceEq, j6, j15, j18, j77, j78, j79, hm2, hlt, hat, hlt5]
          refine cal_eq hsub ?_
          simp only [go_sem, Nat.reduceEqDiff, Nat.reduceBEq, Int.reduceToNat, Int.reduceLT, Int.reduceLE, Int.reduceEq, Nat.reduceLeDiff, Nat.reduceLT, Nat.reduceMul, Nat.reduceAdd, String.reduceEq, j6, j15, j18, j77, j78, j79, hw]
          refine hQ .normal _ ?_; clear hQ Q
          have hDk := DropW.rk B rs1 rs1 [] [.cells (encE x)] m.rows m.rows m.rows (Nat.le_refl _) (by simp)
          rw [encE_eq] at hDk
          refine ⟨_, _, (k + 1, v), hDk, ?_, ⟨hlt, hrest⟩, by dsimp only; omega⟩
          simp [upd_apply, j6, j15, j77, j78, IV.np, np_sh, npEs] <;> omega
        · refine TS.of [3, 4] fun Q hQ => ?_
          simp only [go_sem, Nat.reduceEqDiff, Nat.reduceBEq, Int.reduceToNat, Int.reduceLT, Int.reduceLE, Int.reduceEq, Nat.reduceLeDiff, Nat.reduceLT, Nat.reduceMul, Nat.reduceAdd, String.reduceEq, j6, j15, j18, j77, j78, j79, hm2, hlt]
          refine hQ (.exit 4) _ ?_; clear hQ Q
          rw [List.drop_eq_nil_of_le (by omega), giveP, Option.some.injEq] at hrest
          subst hrest
          have f61 := fun t => take61 h61 t
          have e62 := fun a t => drop62 h61 a t
          have k58 : 58 ≤ (rs1.cs.map (IV.v <| .int .i64 ·)).length := by rw [List.length_map]; omega
          have z60 : 60 ≤ (zeros.map (IV.v <| .int .i64 ·)).length := by simp [zeros]
          have kl : (rs1.cs.map (IV.v <| .int .i64 ·)).length = 60 := by rw [List.length_map]; exact h61
          have hsame : (⟨RM B rs1 [], m.rows⟩ : Mem) = _ := hP rs1 []
          refine TS.of [3, 4] fun Q hQ => ?_
          simp only [go_sem, Nat.reduceEqDiff, Nat.reduceBEq, Int.reduceToNat, Int.reduceLT, Int.reduceLE, Int.reduceEq, Nat.reduceLeDiff, Nat.reduceLT, Nat.reduceMul, Nat.reduceAdd, String.reduceEq, j6, j15, j18, e62]
          rw [hsame]
          simp only [go_sem, Nat.reduceEqDiff, Nat.reduceBEq, Int.reduceToNat, Int.reduceLT, Int.reduceLE, Int.reduceEq, Nat.reduceLeDiff, Nat.reduceLT, Nat.reduceMul, Nat.reduceAdd, String.reduceEq, k58, f61, ints_sh, ints_one, z60, kl, j6, j18]
          refine hQ .ret _ ?_; clear hQ Q; refine post_ret _ _ (runI ⟨rs1.lsn, rs1.cs, nk, 0⟩) ?_ ?_ (DropW.tail0 _ rfl) ⟨rfl, rfl⟩
          · simp only [go_sem, Nat.reduceEqDiff, Nat.reduceBEq, Int.reduceToNat, Int.reduceLT, Int.reduceLE, Int.reduceEq, Nat.reduceLeDiff, Nat.reduceLT, Nat.reduceMul, Nat.reduceAdd, String.reduceEq, j6, j18, kl, k58, f61, ints_sh]
            rw [if_pos (by omega)]; rfl
          · simp [runI, IV.np, npL, np_ints, errE]
    · rw [if_pos (by simpa using hlen)] at hr
      simp only [Option.some.injEq] at hr
      subst hr
      refine TS.of [3, 4] fun Q hQ => ?_
      simp only [go_sem, Nat.reduceEqDiff, Nat.reduceBEq, Int.reduceToNat, Int.reduceLT, Int.reduceLE, Int.reduceEq, Nat.reduceLeDiff, Nat.reduceLT, Nat.reduceMul, Nat.reduceAdd, String.reduceEq]
      refine cal_eq (hca _) ?_
      rw [if_neg hlen]
      simp only [go_sem, Nat.reduceEqDiff, Nat.reduceBEq, Int.reduceToNat, Int.reduceLT, Int.reduceLE, Int.reduceEq, Nat.reduceLeDiff, Nat.reduceLT, Nat.reduceMul, Nat.reduceAdd, String.reduceEq]
      refine hQ .ret _ ?_; clear hQ Q; refine post_ret _ _ (runI (fault0 2)) ?_ ?_ (DropW.tail0 _ rfl) ⟨rfl, rfl⟩
      · simp only [go_sem, Nat.reduceEqDiff, Nat.reduceBEq, Int.reduceToNat, Int.reduceLT, Int.reduceLE, Int.reduceEq, Nat.reduceLeDiff, Nat.reduceLT, Nat.reduceMul, Nat.reduceAdd, String.reduceEq]
        rfl
      · rfl
  · rw [if_pos (by simp)] at hr
    simp only [Option.some.injEq] at hr
    subst hr
    simp only [go_sem, Nat.reduceEqDiff, Nat.reduceBEq, Int.reduceToNat, Int.reduceLT, Int.reduceLE, Int.reduceEq, Nat.reduceLeDiff, Nat.reduceLT, Nat.reduceMul, Nat.reduceAdd, String.reduceEq, errI_some]
    refine hQ .ret _ ?_; clear hQ Q; refine post_ret _ _ (runI (fault0 13)) ?_ ?_ (DropW.tail0 _ rfl) ⟨rfl, rfl⟩
    · simp only [go_sem, Nat.reduceEqDiff, Nat.reduceBEq, Int.reduceToNat, Int.reduceLT, Int.reduceLE, Int.reduceEq, Nat.reduceLeDiff, Nat.reduceLT, Nat.reduceMul, Nat.reduceAdd, String.reduceEq]
      rfl
    · rfl
end Go.Proofs.Ytphjldhdnmoolaa.A
/- The walks of some functions over the abstract machine. -/
namespace Go.Proofs.Ytphjldhdnmoolaa.A
open Go
def w1 : Bytes := ⟨#[111, 112, 32, 111, 40, 41, 32, 123, 32, 91, 120, 93, 32, 61, 32, 49, 59, 32, 125]⟩
def w2 : Bytes := ⟨#[111, 112, 32, 103, 101, 116, 40, 105, 41, 32, 123, 32, 103, 105, 118, 101, 32, 91, 105, 93, 59, 32, 125]⟩
def w3 : Bytes := ⟨#[111, 112, 32, 97, 100, 100, 40, 105, 44, 32, 118, 41, 32, 123, 32, 110, 101, 101, 100, 32, 105, 32, 60, 32, 54, 48, 59, 32, 91, 105, 93, 32, 43, 61, 32, 118, 59, 32, 125]⟩
set_option maxRecDepth 100000 in
theorem w1_ok : checkedP w1 = (Info0, 9, 10, true) := by kernel_rfl
set_option maxRecDepth 100000 in
theorem w2_ok : (checkedP w2).1.mode = 1 ∧ (checkedP w2).2.1 = 0 := by constructor <;> kernel_rfl
set_option maxRecDepth 100000 in
theorem w3_ok : (checkedP w3).1.mode = 2 ∧ (checkedP w3).1.turns = true ∧ (checkedP w3).1.names = 2 ∧ (checkedP w3).2.1 = 0 ∧ (checkedP w3).2.2.2 = true := by refine ⟨?_, ?_, ?_, ?_, ?_⟩ <;> kernel_rfl
set_option maxRecDepth 100000 in
set_option maxHeartbeats 4000000 in
theorem alive8_sim (m : Mem) : Sim 21 [] m (fun r m' => r = bb true ∧ m' = m) := by
  refine Sim.ofS 67 [.tmp 0] Try.func21 rfl rfl rfl (by simp) fun wr => ?_
  simp only [go_sem, Nat.reduceEqDiff, Nat.reduceBEq, Int.reduceToNat, Int.reduceLT, Int.reduceLE, Int.reduceEq, Nat.reduceLeDiff, Nat.reduceLT, Nat.reduceMul, Nat.reduceAdd, String.reduceEq]
  have h1 := fun m => checked_sim m w1 (by decide) parse_ok
  have h2 := fun m => checked_sim m w2 (by decide) parse_ok
  have h3 := fun m => checked_sim m w3 (by decide) parse_ok
  rw [w1_ok] at h1
  obtain ⟨q1, q2⟩ := w2_ok
  obtain ⟨r1, r2, r3, r4, r5⟩ := w3_ok
  generalize checkedP w2 = X at h2 q1 q2
  generalize checkedP w3 = Y at h3 r1 r2 r3 r4 r5
  refine TS.of [] fun Q hQ => ?_
  simp only [go_sem, Nat.reduceEqDiff, Nat.reduceBEq, Int.reduceToNat, Int.reduceLT, Int.reduceLE, Int.reduceEq, Nat.reduceLeDiff, Nat.reduceLT, Nat.reduceMul, Nat.reduceAdd, String.reduceEq]
  refine cal_eq (h3 _) ?_
  simp only [go_sem, Nat.reduceEqDiff, Nat.reduceBEq, Int.reduceToNat, Int.reduceLT, Int.reduceLE, Int.reduceEq, Nat.reduceLeDiff, Nat.reduceLT, Nat.reduceMul, Nat.reduceAdd, String.reduceEq]
  refine cal_eq (h2 _) ?_
  simp only [go_sem, Nat.reduceEqDiff, Nat.reduceBEq, Int.reduceToNat, Int.reduceLT, Int.reduceLE, Int.reduceEq, Nat.reduceLeDiff, Nat.reduceLT, Nat.reduceMul, Nat.reduceAdd, String.reduceEq]
  refine cal_eq (h1 _) ?_
  simp only [go_sem, Nat.reduceEqDiff, Nat.reduceBEq, Int.reduceToNat, Int.reduceLT, Int.reduceLE, Int.reduceEq, Nat.reduceLeDiff, Nat.reduceLT, Nat.reduceMul, Nat.reduceAdd, String.reduceEq, q1, q2, r1, r2, r3, r4, r5]
  refine hQ .ret _ ?_; clear hQ Q; refine post_ret _ _ (bb true) ?_ rfl (DropW.tail0 _ rfl) ⟨rfl, rfl⟩
  simp only [go_sem, Nat.reduceEqDiff, Nat.reduceBEq, Int.reduceToNat, Int.reduceLT, Int.reduceLE, Int.reduceEq, Nat.reduceLeDiff, Nat.reduceLT, Nat.reduceMul, Nat.reduceAdd, String.reduceEq]
end Go.Proofs.Ytphjldhdnmoolaa.A
/- The walks of some functions over the abstract machine. -/
namespace Go.Proofs.Ytphjldhdnmoolaa.A
open Go
/-! a quick lexer -/
def isLet (b : UInt8) : Bool := (decide (65 ≤ b.toNat) && decide (b.toNat ≤ 90)) || (decide (97 ≤ b.toNat) && decide (b.toNat ≤ 122))
def isDig (b : UInt8) : Bool := decide (48 ≤ b.toNat) && decide (b.toNat ≤ 57)
def isWly (b : UInt8) : Bool := isLet b || isDig b || decide (b.toNat = 95)
def isSgn (b : UInt8) : Bool := hasB signs b.toNat
theorem u8_all {p : UInt8 → Bool} (h : (List.range 256).all (fun n => p (UInt8.ofNat n)) = true) (b : UInt8) : p b = true := by
  have h1 := List.all_eq_true.1 h b.toNat (List.mem_range.2 b.toNat_lt)
  simpa using h1
set_option maxRecDepth 100000 in
theorem has_letters (b : UInt8) : hasB letters b.toNat = isLet b := by
  simpa using u8_all (p := fun b => decide (hasB letters b.toNat = isLet b)) (by kernel_rfl) b
set_option maxRecDepth 100000 in
theorem has_wordly (b : UInt8) : hasB wordly b.toNat = isWly b := by
  simpa using u8_all (p := fun b => decide (hasB wordly b.toNat = isWly b)) (by kernel_rfl) b
set_option maxRecDepth 100000 in
theorem has_digits (b : UInt8) : hasB digits b.toNat = isDig b := by
  simpa using u8_all (p := fun b => decide (hasB digits b.toNat = isDig b)) (by kernel_rfl) b
set_option maxRecDepth 100000 in
theorem let_facts (b : UInt8) : (isLet b → isDig b = false ∧ isSgn b = false ∧ isWly b = true ∧ b.toNat ≠ 38 ∧ b.toNat ≠ 124 ∧ b.toNat ≠ 46 ∧ b.toNat ≠ 35 ∧ b.toNat ≠ 32 ∧ b.toNat ≠ 9 ∧ b.toNat ≠ 10) := by
  have := u8_all (p := fun b => !isLet b || (!isDig b && (!isSgn b && (isWly b && (!decide (b.toNat = 38) && (!decide (b.toNat = 124) && (!decide (b.toNat = 46) && (!decide (b.toNat = 35) && (!decide (b.toNat = 32) && (!decide (b.toNat = 9) && !decide (b.toNat = 10))))))))))) (by kernel_rfl) b
  intro h; simpa [h] using this
set_option maxRecDepth 100000 in
theorem dig_facts (b : UInt8) : (isDig b → isLet b = false ∧ isSgn b = false ∧ b.toNat ≠ 38 ∧ b.toNat ≠ 124 ∧ b.toNat ≠ 46 ∧ b.toNat ≠ 35 ∧ b.toNat ≠ 32 ∧ b.toNat ≠ 9 ∧ b.toNat ≠ 10) := by
  have := u8_all (p := fun b => !isDig b || (!isLet b && (!isSgn b && (!decide (b.toNat = 38) && (!decide (b.toNat = 124) && (!decide (b.toNat = 46) && (!decide (b.toNat = 35) && (!decide (b.toNat = 32) && (!decide (b.toNat = 9) && !decide (b.toNat = 10)))))))))) (by kernel_rfl) b
  intro h; simpa [h] using this
def ofL (l : List UInt8) : Bytes := ⟨⟨l⟩⟩
theorem L_ofL (l : List UInt8) : L (ofL l) = l := rfl
theorem ofL_L (s : Bytes) : ofL (L s) = s := rfl
theorem L_inj {s t : Bytes} (h : L s = L t) : s = t := by rw [← ofL_L s, ← ofL_L t, h]
def twoL (l : List UInt8) : Bool := decide (l = [43, 61]) || decide (l = [45, 61]) || decide (l = [60, 62]) || decide (l = [60, 61]) || decide (l = [62, 61]) || decide (l = [61, 61]) || decide (l = [33, 61]) || decide (l = [38, 38]) || decide (l = [124, 124]) || decide (l = [46, 46])
theorem two_L (s : Bytes) : two s = twoL (L s) := by
  have h : ∀ t : Bytes, decide (s = t) = decide (L s = L t) := fun t => by
    rw [decide_eq_decide]; exact ⟨fun h => by rw [h], L_inj⟩
  unfold two twoL
  simp only [h]
  rfl
theorem twoL_len {l : List UInt8} (h : twoL l = true) : l.length = 2 := by
  unfold twoL at h
  simp only [Bool.or_eq_true, decide_eq_true_eq] at h
  rcases h with (((((((((h | h) | h) | h) | h) | h) | h) | h) | h) | h) <;> rw [h] <;> rfl
set_option maxRecDepth 100000 in
theorem twoL_first {b : UInt8} {r : List UInt8} (h : twoL (b :: r) = true) : isSgn b = true ∨ b.toNat = 38 ∨ b.toNat = 124 ∨ b.toNat = 46 := by
  unfold twoL at h
  simp only [Bool.or_eq_true, decide_eq_true_eq, List.cons.injEq] at h
  rcases h with (((((((((h | h) | h) | h) | h) | h) | h) | h) | h) | h) <;> obtain ⟨rfl, rfl⟩ := h <;> decide
def goodL : List UInt8 → Bool
  | [] => true
  | b :: r => if isLet b then r.all isWly else if isDig b then r.all isDig else match r with
    | [] => isSgn b
    | c :: r => twoL (b :: c :: r)
theorem longB_L (s : Bytes) : longB s = match L s with | b :: r => isLet b && (b :: r).all isWly | [] => false := by
  unfold longB allB
  cases L s with
  | nil => rfl
  | cons b r => simp only [List.getElem?_cons_zero, has_letters, has_wordly]
theorem signB_L (s : Bytes) : signB s = match L s with | [] => false | [b] => isSgn b | b :: c :: r => twoL (b :: c :: r) := by
  unfold signB
  rw [two_L, ← L_len]
  cases L s with
  | nil => rfl
  | cons b r => cases r with
    | nil => simp [isSgn]
    | cons c r => simp
theorem good_L (s : Bytes) : good s = goodL (L s) := by
  unfold good
  rw [longB_L, signB_L]
  unfold allB
  simp only [has_digits]
  cases L s with
  | nil => rfl
  | cons b r =>
    by_cases hl : isLet b = true
    · have h := let_facts b hl
      have h2 : (match b :: r with | [] => false | [b] => isSgn b | b :: c :: r => twoL (b :: c :: r)) = false := by
        cases r with
        | nil => exact h.2.1
        | cons c r =>
          dsimp only
          cases e : twoL (b :: c :: r) with
          | false => rfl
          | true => exact absurd (twoL_first e) (by simp [h])
      rw [h2]
      simp [goodL, hl, h]
    · by_cases hd : isDig b = true
      · have h := dig_facts b hd
        have h2 : (match b :: r with | [] => false | [b] => isSgn b | b :: c :: r => twoL (b :: c :: r)) = false := by
          cases r with
          | nil => exact h.2.1
          | cons c r =>
            dsimp only
            cases e : twoL (b :: c :: r) with
            | false => rfl
            | true => exact absurd (twoL_first e) (by simp [h])
        rw [h2]
        simp [goodL, hd, h]
      · simp only [goodL, hl, hd]
        cases r with
        | nil => simp [hl, hd]
        | cons c r => simp [hl, hd]
def sgnLen (b : UInt8) : List UInt8 → Nat
  | [] => if isSgn b then 1 else 0
  | c :: _ => if twoL [b, c] then 2 else if isSgn b then 1 else 0
def tlen : List UInt8 → Nat
  | [] => 0
  | b :: r => if isLet b then 1 + (r.takeWhile isWly).length else if isDig b then 1 + (r.takeWhile isDig).length else sgnLen b r
theorem all_take {p : UInt8 → Bool} : ∀ (r : List UInt8) (j : Nat), j ≤ r.length → ((r.take j).all p = true ↔ j ≤ (r.takeWhile p).length)
  | [], j, h => by simp at h; subst h; simp
  | b :: r, 0, h => by simp
  | b :: r, j + 1, h => by
    have ih := all_take (p := p) r j (by simpa using h)
    by_cases hb : p b = true
    · simp [List.takeWhile_cons, hb, ih]
    · simp [List.takeWhile_cons, hb]
theorem tlen_le : ∀ r : List UInt8, tlen r ≤ r.length
  | [] => Nat.le_refl _
  | b :: r => by
    have h1 := (List.takeWhile_sublist (l := r) isWly).length_le
    have h2 := (List.takeWhile_sublist (l := r) isDig).length_le
    rw [tlen.eq_2, List.length_cons]
    by_cases hl : isLet b = true
    · rw [if_pos hl]; omega
    · rw [if_neg hl]
      by_cases hd : isDig b = true
      · rw [if_pos hd]; omega
      · rw [if_neg hd]
        cases r with
        | nil => simp only [sgnLen]; split <;> simp
        | cons c r => simp only [sgnLen]; simp only [List.length_cons]; (repeat' split) <;> omega
theorem good_tlen : ∀ (r : List UInt8), 0 < tlen r → goodL (r.take (tlen r)) = true
  | [], h => by simp [tlen] at h
  | b :: r, h => by
    by_cases hl : isLet b = true
    · have ht : tlen (b :: r) = (r.takeWhile isWly).length + 1 := by rw [tlen.eq_2, if_pos hl, Nat.add_comm]
      rw [ht, List.take_succ_cons]
      simp only [goodL, hl, if_true]
      exact (all_take r _ (List.takeWhile_sublist _).length_le).2 (Nat.le_refl _)
    · by_cases hd : isDig b = true
      · have ht : tlen (b :: r) = (r.takeWhile isDig).length + 1 := by rw [tlen.eq_2, if_neg hl, if_pos hd, Nat.add_comm]
        rw [ht, List.take_succ_cons]
        simp only [goodL, hl, hd, if_true]
        exact (all_take r _ (List.takeWhile_sublist _).length_le).2 (Nat.le_refl _)
      · cases r with
        | nil =>
          by_cases hs : isSgn b = true
          · simp [tlen, sgnLen, hl, hd, hs, goodL]
          · simp [tlen, sgnLen, hl, hd, hs] at h
        | cons c r =>
          by_cases h2 : twoL [b, c] = true
          · simp [tlen, sgnLen, hl, hd, h2, goodL]
          · by_cases hs : isSgn b = true
            · simp [tlen, sgnLen, hl, hd, h2, hs, goodL]
            · simp [tlen, sgnLen, hl, hd, h2, hs] at h
theorem bad_tlen : ∀ (r : List UInt8) (k : Nat), tlen r < k → k ≤ r.length → goodL (r.take k) = false
  | [], k, h, hk => by simp at hk; subst hk; simp [tlen] at h
  | b :: r, 0, h, hk => by omega
  | b :: r, k + 1, h, hk => by
    have hk' : k ≤ r.length := by simpa using hk
    rw [List.take_succ_cons]
    by_cases hl : isLet b = true
    · have ht : tlen (b :: r) = (r.takeWhile isWly).length + 1 := by rw [tlen.eq_2, if_pos hl, Nat.add_comm]
      simp only [goodL, hl, if_true]
      rw [← Bool.not_eq_true, all_take r k hk']; omega
    · by_cases hd : isDig b = true
      · have ht : tlen (b :: r) = (r.takeWhile isDig).length + 1 := by rw [tlen.eq_2, if_neg hl, if_pos hd, Nat.add_comm]
        simp only [goodL, hl, hd, if_true]
        rw [← Bool.not_eq_true]
        simp only [Bool.false_eq_true, if_false]
        rw [all_take r k hk']; omega
      · cases r with
        | nil =>
          simp at hk'; subst hk'
          by_cases hs : isSgn b = true
          · simp [tlen, sgnLen, hl, hd, hs] at h
          · simp [goodL, hl, hd, hs]
        | cons c r =>
          match k, hk', h with
          | 0, _, h =>
            by_cases hs : isSgn b = true
            · exfalso; simp only [tlen, sgnLen, hl, hd, hs, if_false, if_true] at h; revert h; simp; split <;> simp
            · simp [goodL, hl, hd, hs]
          | 1, _, h =>
            by_cases h2 : twoL [b, c] = true
            · simp [tlen, sgnLen, hl, hd, h2] at h
            · simp [goodL, hl, hd, h2]
          | k + 2, hk', _ =>
            simp only [List.take_succ_cons, goodL, hl, hd]
            cases e : twoL (b :: c :: r.take (k + 1)) with
            | false => simp
            | true =>
              have h9 := twoL_len e
              simp only [List.length_cons, List.length_take] at h9 hk'
              omega
theorem lastE_eq {s : Bytes} {a e : Nat} (ha : a ≤ e) (hg : e = a ∨ good (s.extract a e) = true) : ∀ n, e ≤ n → (∀ k, e < k → k ≤ n → good (s.extract a k) = false) → lastE s a n = e
  | 0, hn, _ => by simp [lastE]; omega
  | n + 1, hn, hb => by
    rw [lastE_succ]
    by_cases he : e = n + 1
    · rw [if_neg]
      · exact he.symm
      · rintro ⟨h1, h2⟩
        rcases hg with hg | hg
        · omega
        · rw [he] at hg; rw [hg] at h2; cases h2
    · rw [if_pos ⟨by omega, hb _ (by omega) (Nat.le_refl _)⟩]
      exact lastE_eq ha hg n (by omega) fun k h1 h2 => hb k h1 (by omega)
theorem L_ext (s : Bytes) (a e : Nat) : L (s.extract a e) = ((L s).drop a).take (e - a) := by
  unfold L
  simp [ByteArray.data_extract, Array.toList_extract, List.extract_eq_take_drop]
theorem lastE_tlen (s : Bytes) (a : Nat) (ha : a ≤ s.size) : lastE s a s.size = a + tlen ((L s).drop a) := by
  have hl := tlen_le ((L s).drop a)
  rw [List.length_drop, L_len] at hl
  refine lastE_eq (by omega) ?_ _ (by omega) ?_
  · by_cases h : tlen ((L s).drop a) = 0
    · left; omega
    · right
      rw [good_L, L_ext]
      have : a + tlen ((L s).drop a) - a = tlen ((L s).drop a) := by omega
      rw [this]
      exact good_tlen _ (by omega)
  · intro k h1 h2
    rw [good_L, L_ext]
    exact bad_tlen _ _ (by omega) (by rw [List.length_drop, L_len]; omega)
def kindL : List UInt8 → Int
  | [] => 0
  | b :: r => if isLet b then (if (r.takeWhile isWly).length < 16 then 1 else 0) else if isDig b then (if numOK (ofL (b :: r.takeWhile isDig)) then 2 else 0) else if tlen (b :: r) = 0 then 0 else 3
theorem take_while (p : UInt8 → Bool) (r : List UInt8) : r.take (r.takeWhile p).length = r.takeWhile p := (List.prefix_iff_eq_take.1 (List.takeWhile_prefix p)).symm
theorem all_while (p : UInt8 → Bool) : ∀ r : List UInt8, (r.takeWhile p).all p = true
  | [] => rfl
  | b :: r => by
    by_cases h : p b = true
    · rw [List.takeWhile_cons, if_pos h, List.all_cons, h, all_while p r]; rfl
    · rw [List.takeWhile_cons, if_neg h]; rfl
theorem size_ofL (l : List UInt8) : (ofL l).size = l.length := rfl
theorem kind_tlen : ∀ r : List UInt8, kindT (ofL (r.take (tlen r))) (decide (0 < tlen r)) = kindL r
  | [] => by decide
  | b :: r => by
    by_cases hl : isLet b = true
    · have hf := let_facts b hl
      have ht : tlen (b :: r) = (r.takeWhile isWly).length + 1 := by rw [tlen.eq_2, if_pos hl, Nat.add_comm]
      rw [ht, List.take_succ_cons, take_while]
      have hs : signB (ofL (b :: r.takeWhile isWly)) = false := by
        rw [signB_L, L_ofL]
        cases e : r.takeWhile isWly with
        | nil => exact hf.2.1
        | cons c q =>
          cases e2 : twoL (b :: c :: q) with
          | false => exact e2
          | true => exact absurd (twoL_first e2) (by simp [hf])
      have hd : allB (ofL (b :: r.takeWhile isWly)) digits = false := by
        unfold allB; rw [L_ofL]; simp [has_digits, hf]
      have hw : longB (ofL (b :: r.takeWhile isWly)) = true := by
        rw [longB_L, L_ofL]; simp only [hl, List.all_cons, hf, all_while]; rfl
      unfold kindT wordB
      rw [hs, hd, hw, size_ofL]
      by_cases hn : (r.takeWhile isWly).length < 16
      · have : (b :: r.takeWhile isWly).length ≤ 16 := by simp only [List.length_cons]; omega
        simp only [this]; simp [kindL, hl, hn]
      · have : ¬ (b :: r.takeWhile isWly).length ≤ 16 := by simp only [List.length_cons]; omega
        simp only [this]
        simp [kindL, hl, hn]
    · by_cases hd : isDig b = true
      · have hf := dig_facts b hd
        have ht : tlen (b :: r) = (r.takeWhile isDig).length + 1 := by rw [tlen.eq_2, if_neg hl, if_pos hd, Nat.add_comm]
        rw [ht, List.take_succ_cons, take_while]
        have hs : signB (ofL (b :: r.takeWhile isDig)) = false := by
          rw [signB_L, L_ofL]
          cases e : r.takeWhile isDig with
          | nil => exact hf.2.1
          | cons c q =>
            cases e2 : twoL (b :: c :: q) with
            | false => exact e2
            | true => exact absurd (twoL_first e2) (by simp [hf])
        have hdd : allB (ofL (b :: r.takeWhile isDig)) digits = true := by
          unfold allB; rw [L_ofL]; simp only [has_digits, List.all_cons, hd, all_while]; rfl
        have hw : longB (ofL (b :: r.takeWhile isDig)) = false := by
          rw [longB_L, L_ofL]; simp [hf]
        unfold kindT wordB
        rw [hs, hdd, hw]
        simp [kindL, hl, hd]
      · unfold kindL
        simp only [hl, hd, Bool.false_eq_true, if_false]
        have hlg : ∀ q, longB (ofL (b :: q)) = false := fun q => by rw [longB_L, L_ofL]; simp [hl]
        by_cases h0 : tlen (b :: r) = 0
        · rw [if_pos h0, h0]; simp only [List.take_zero]; decide
        · rw [if_neg h0]
          cases r with
          | nil =>
            by_cases hs : isSgn b = true
            · have ht : tlen [b] = 1 := by simp [tlen, sgnLen, hl, hd, hs]
              rw [ht]
              have : signB (ofL (List.take 1 [b])) = true := by rw [signB_L, L_ofL]; exact hs
              unfold kindT; rw [if_pos this]
            · simp [tlen, sgnLen, hl, hd, hs] at h0
          | cons c r =>
            by_cases h2 : twoL [b, c] = true
            · have ht : tlen (b :: c :: r) = 2 := by simp [tlen, sgnLen, hl, hd, h2]
              rw [ht]
              have : signB (ofL (List.take 2 (b :: c :: r))) = true := by rw [signB_L, L_ofL]; exact h2
              unfold kindT; rw [if_pos this]
            · by_cases hs : isSgn b = true
              · have ht : tlen (b :: c :: r) = 1 := by simp [tlen, sgnLen, hl, hd, h2, hs]
                rw [ht]
                have : signB (ofL (List.take 1 (b :: c :: r))) = true := by rw [signB_L, L_ofL]; exact hs
                unfold kindT; rw [if_pos this]
              · simp [tlen, sgnLen, hl, hd, h2, hs] at h0
def consT (t : Tok) (x : List Tok × Int × Int) : List Tok × Int × Int := if x.2.1 = 0 then (t :: x.1, 0, 0) else x
def nlen (r : List UInt8) : Nat := (r.takeWhile (fun b => !decide (b.toNat = 10))).length
def lexR : Nat → List UInt8 → Nat → List Tok × Int × Int
  | 0, _, _ => ([], 0, 0)
  | _ + 1, [], p => ([⟨4, ByteArray.empty, p⟩], 0, 0)
  | f + 1, b :: r, p => if b.toNat = 32 ∨ b.toNat = 9 ∨ b.toNat = 10 then lexR f r (p + 1)
    else if b.toNat = 35 then lexR f ((b :: r).drop (nlen (b :: r))) (p + nlen (b :: r))
    else if kindL (b :: r) = 0 then ([], 7, p)
    else consT ⟨kindL (b :: r), ofL ((b :: r).take (tlen (b :: r))), p⟩ (lexR f ((b :: r).drop (tlen (b :: r))) (p + tlen (b :: r)))
theorem ext_ofL (s : Bytes) (a k : Nat) : s.extract a (a + k) = ofL (((L s).drop a).take k) := L_inj (by rw [L_ext, L_ofL]; congr 1; omega)
def preT (acc : List Tok) (x : List Tok × Int × Int) : List Tok × Int × Int := if x.2.1 = 0 then (acc ++ x.1, 0, 0) else x
theorem preT_cons (acc : List Tok) (t : Tok) (x : List Tok × Int × Int) : preT acc (consT t x) = preT (acc ++ [t]) x := by
  unfold preT consT
  by_cases h : x.2.1 = 0
  · simp [h]
  · simp [h]
theorem kind_pos {r : List UInt8} (h : kindL r ≠ 0) : 0 < tlen r := by
  apply Nat.pos_of_ne_zero
  intro h0
  apply h
  rw [← kind_tlen, h0]; simp; decide
theorem toksF_lexR (s : Bytes) : ∀ (f a : Nat) (acc : List Tok), a ≤ s.size → s.size + 1 ≤ f + a → toksF s f a acc = preT acc (lexR f ((L s).drop a) a)
  | 0, a, acc, h1, h2 => by omega
  | f + 1, a, acc, h1, h2 => by
    unfold toksF
    cases hb : (L s)[a]? with
    | none =>
      have : s.size ≤ a := by rw [← L_len]; exact List.getElem?_eq_none_iff.1 hb
      have h3 : (L s).drop a = [] := List.drop_eq_nil_of_le (by rw [L_len]; exact this)
      have h4 : a = s.size := by omega
      rw [h3, h4]; rfl
    | some b =>
      obtain ⟨hlt, hb'⟩ := List.getElem?_eq_some_iff.1 hb
      have hd : (L s).drop a = b :: (L s).drop (a + 1) := by rw [List.drop_eq_getElem_cons hlt, hb']
      rw [L_len] at hlt
      dsimp only
      rw [lastE_tlen s a h1]
      have hk : kindT (s.extract a (a + tlen ((L s).drop a))) (decide (a < a + tlen ((L s).drop a))) = kindL ((L s).drop a) := by
        rw [ext_ofL, ← kind_tlen]
        congr 1
        rw [decide_eq_decide]; omega
      rw [hk, hd]
      unfold lexR
      by_cases hsp : b.toNat = 32 ∨ b.toNat = 9 ∨ b.toNat = 10
      · rw [if_pos hsp, if_pos hsp, toksF_lexR s f (a + 1) acc (by omega) (by omega)]
      · rw [if_neg hsp, if_neg hsp]
        by_cases hc : b.toNat = 35
        · rw [if_pos hc, if_pos hc]
          have hn := nlp_le (s := s) (k := a) h1
          have hn0 : nlp s a = a + nlen (b :: (L s).drop (a + 1)) := by unfold nlp nlen; rw [hd]
          have hgt : 0 < nlen (b :: (L s).drop (a + 1)) := by
            unfold nlen; rw [List.takeWhile_cons]; simp [hc]
          rw [hn0] at hn ⊢
          rw [toksF_lexR s f _ acc (by omega) (by omega), ← hd, List.drop_drop]
        · rw [if_neg hc, if_neg hc]
          by_cases h0 : kindL (b :: (L s).drop (a + 1)) = 0
          · rw [if_pos h0, if_pos h0]; rfl
          · rw [if_neg h0, if_neg h0]
            have hp := kind_pos h0
            have hl := tlen_le (b :: (L s).drop (a + 1))
            rw [← hd, List.length_drop, L_len, hd] at hl
            rw [toksF_lexR s f _ _ (by omega) (by omega), preT_cons, ext_ofL, hd, ← hd, List.drop_drop, hd]
theorem preT_nil (x : List Tok × Int × Int) (h : x.2.1 = 0 → x.2.2 = 0) : preT [] x = x := by
  obtain ⟨l, c, p⟩ := x
  unfold preT
  by_cases hc : c = 0
  · have := h hc; dsimp only at this ⊢; simp [hc, this]
  · simp [hc]
theorem lexR_ok : ∀ (f : Nat) (r : List UInt8) (p : Nat), (lexR f r p).2.1 = 0 → (lexR f r p).2.2 = 0
  | 0, _, _, _ => rfl
  | _ + 1, [], _, _ => rfl
  | f + 1, b :: r, p, h => by
    revert h
    unfold lexR consT
    split
    · exact lexR_ok _ _ _
    · split
      · exact lexR_ok _ _ _
      · split
        · intro h; cases h
        · split
          · exact fun _ => rfl
          · intro h; contradiction
def quick (s : Bytes) : List Tok × Int × Int := if 480 < s.size then ([], 2, 0) else lexR (s.size + 1) (L s) 0
theorem tokens_quick (s : Bytes) : tokens s = quick s := by
  unfold tokens quick
  split
  · rfl
  · rw [toksF_lexR s _ 0 [] (by omega) (by omega), preT_nil]
    · rfl
    · rw [List.drop_zero]; exact lexR_ok _ _ _
end Go.Proofs.Ytphjldhdnmoolaa.A
/- The walks of some functions over the abstract machine. -/
namespace Go.Proofs.Ytphjldhdnmoolaa.A
open Go
/-! closed texts, quickly; CheckScopes -/
def parseQ (s : Bytes) : Def × Int × Int :=
  let t := quick s
  if t.2.1 ≠ 0 then (D0, t.2.1, t.2.2)
  else let d := defP t.1
    if fixP t.1 d.2 < 0 then (D0, 8, (tk t.1 (-1 - fixP t.1 d.2)).p) else (d.1, 0, 0)
theorem parse_Q (s : Bytes) : parse s = parseQ s := by unfold parse parseQ; rw [tokens_quick]
def checkedQ (s : Bytes) : Info × Int × Int × Bool := if (parseQ s).2.1 = 0 then ((check (parseQ s).1).1, (faultP (check (parseQ s).1).2).1, (faultP (check (parseQ s).1).2).2, true) else (Info0, 0, 0, false)
theorem checked_Q (s : Bytes) : checkedP s = checkedQ s := by unfold checkedP checkedQ; rw [parse_Q]
theorem umodc (p : Int) (c : Nat) (hc : 0 < c) (hc' : c < 1000) : ∃ k : Nat, k < c ∧ IntKind.i64.wrap ((IntKind.u64.wrap p).tmod c) = (k : Int) := by
  have h0 : 0 ≤ IntKind.u64.wrap p := by simp only [IntKind.wrap, IntKind.bits, IntKind.signed]; simp; omega
  have h1 := Int.emod_nonneg (IntKind.u64.wrap p) (b := (c : Int)) (by omega)
  have h2 := Int.emod_lt_of_pos (IntKind.u64.wrap p) (b := (c : Int)) (by omega)
  refine ⟨((IntKind.u64.wrap p).tmod c).toNat, ?_, ?_⟩
  · rw [Int.tmod_eq_emod_of_nonneg h0]; omega
  · rw [Int.tmod_eq_emod_of_nonneg h0, wrap_small (by omega) (by omega)]; omega
theorem scope_mod (p : Int) : ∃ k : Nat, k < 6 ∧ IntKind.i64.wrap ((IntKind.u64.wrap p).tmod 6) = (k : Int) := umodc p 6 (by decide) (by decide)
abbrev scT (a b c d e f : Bytes) : Bytes := (⟨#[111, 112, 32, 111, 40, 41, 32, 123, 32]⟩ : Bytes) ++ a ++ ⟨#[105, 102, 32, 116, 114, 117, 101, 32, 123, 32]⟩ ++ b ++ ⟨#[108, 101, 116, 32, 119, 32, 61, 32, 49, 59, 32]⟩ ++ c ++ ⟨#[102, 111, 114, 32, 105, 32, 105, 110, 32, 48, 46, 46, 50, 32, 123, 32]⟩ ++ d ++ ⟨#[125, 32, 125, 32, 101, 108, 115, 101, 32, 123, 32]⟩ ++ e ++ ⟨#[125, 32]⟩ ++ f ++ ⟨#[125]⟩
abbrev scU : Bytes := ⟨#[91, 119, 93, 32, 61, 32, 49, 59, 32]⟩
abbrev scE : Bytes := ⟨#[]⟩
set_option maxRecDepth 100000
theorem sc0 : checkedP (scT scU scE scE scE scE scE) = (Info0, 9, 10, true) ∧ (scT scU scE scE scE scE scE)[10]? = some 119 := ⟨by rw [checked_Q]; kernel_rfl, by kernel_rfl⟩
theorem sc1 : checkedP (scT scE scU scE scE scE scE) = (Info0, 9, 20, true) ∧ (scT scE scU scE scE scE scE)[20]? = some 119 := ⟨by rw [checked_Q]; kernel_rfl, by kernel_rfl⟩
theorem sc2 : (checkedP (scT scE scE scU scE scE scE)).2.1 = 0 ∧ (checkedP (scT scE scE scU scE scE scE)).1.mode = 3 ∧ (checkedP (scT scE scE scU scE scE scE)).1.names = 2 ∧ (checkedP (scT scE scE scU scE scE scE)).2.2.2 = true := by rw [checked_Q]; exact ⟨by kernel_rfl, by kernel_rfl, by kernel_rfl, by kernel_rfl⟩
theorem sc3 : (checkedP (scT scE scE scE scU scE scE)).2.1 = 0 ∧ (checkedP (scT scE scE scE scU scE scE)).1.mode = 3 ∧ (checkedP (scT scE scE scE scU scE scE)).1.names = 2 ∧ (checkedP (scT scE scE scE scU scE scE)).2.2.2 = true := by rw [checked_Q]; exact ⟨by kernel_rfl, by kernel_rfl, by kernel_rfl, by kernel_rfl⟩
theorem sc4 : checkedP (scT scE scE scE scE scU scE) = (Info0, 9, 58, true) ∧ (scT scE scE scE scE scU scE)[58]? = some 119 := ⟨by rw [checked_Q]; kernel_rfl, by kernel_rfl⟩
theorem sc5 : checkedP (scT scE scE scE scE scE scU) = (Info0, 9, 60, true) ∧ (scT scE scE scE scE scE scU)[60]? = some 119 := ⟨by rw [checked_Q]; kernel_rfl, by kernel_rfl⟩
set_option maxRecDepth 100000 in
set_option maxHeartbeats 4000000 in
theorem scopes_law (m : Mem) (p : Int) : Sim 10 [ii p] m (fun r m' => r = bb true ∧ m' = m) := by
  obtain ⟨k, hk, hkw⟩ := scope_mod p
  refine Sim.ofS 78 [.tmp 2] Try.func10 rfl rfl rfl (by simp) fun wr => ?_
  simp only [go_sem, Nat.reduceEqDiff, Nat.reduceBEq, Int.reduceToNat, Int.reduceLT, Int.reduceLE, Int.reduceEq, Nat.reduceLeDiff, Nat.reduceLT, Nat.reduceMul, Nat.reduceAdd, String.reduceEq]
  refine TS.seq (TS.of [] fun Q hQ => ?_)
  simp only [go_sem, Nat.reduceEqDiff, Nat.reduceBEq, Int.reduceToNat, Int.reduceLT, Int.reduceLE, Int.reduceEq, Nat.reduceLeDiff, Nat.reduceLT, Nat.reduceMul, Nat.reduceAdd, String.reduceEq]
  refine hQ .normal _ ?_; clear hQ Q
  refine TS.seq (TS.of [] fun Q hQ => ?_)
  simp only [go_sem, Nat.reduceEqDiff, Nat.reduceBEq, Int.reduceToNat, Int.reduceLT, Int.reduceLE, Int.reduceEq, Nat.reduceLeDiff, Nat.reduceLT, Nat.reduceMul, Nat.reduceAdd, String.reduceEq]
  refine cal_eq (alive8_sim _) ?_
  simp only [go_sem, Nat.reduceEqDiff, Nat.reduceBEq, Int.reduceToNat, Int.reduceLT, Int.reduceLE, Int.reduceEq, Nat.reduceLeDiff, Nat.reduceLT, Nat.reduceMul, Nat.reduceAdd, String.reduceEq]
  refine hQ .normal _ ?_; clear hQ Q
  refine TS.seq (TS.of [] fun Q hQ => ?_)
  simp only [go_sem, Nat.reduceEqDiff, Nat.reduceBEq, Int.reduceToNat, Int.reduceLT, Int.reduceLE, Int.reduceEq, Nat.reduceLeDiff, Nat.reduceLT, Nat.reduceMul, Nat.reduceAdd, String.reduceEq]
  refine hQ .normal _ ?_; clear hQ Q
  have hk6 : k = 0 ∨ k = 1 ∨ k = 2 ∨ k = 3 ∨ k = 4 ∨ k = 5 := by omega
  rcases hk6 with rfl | rfl | rfl | rfl | rfl | rfl
  all_goals refine TS.of [] fun Q hQ => ?_
  all_goals (simp only [go_sem, Nat.reduceEqDiff, Nat.reduceBEq, Int.reduceToNat, Int.reduceLT, Int.reduceLE, Int.reduceEq, Nat.reduceLeDiff, Nat.reduceLT, Nat.reduceMul, Nat.reduceAdd, String.reduceEq, hkw, show ¬ ((6 : Int) = 0) by decide])
  case' inr.inr.inl => obtain ⟨q1, q2, q3, q4⟩ := sc2
  case' inr.inr.inr.inl => obtain ⟨q1, q2, q3, q4⟩ := sc3
  case' inl =>
    refine cal_eq (checked_sim _ (scT scU scE scE scE scE scE) (by decide) parse_ok) ?_
    rw [sc0.1]
    have hix := sc0.2
  case' inr.inl =>
    refine cal_eq (checked_sim _ (scT scE scU scE scE scE scE) (by decide) parse_ok) ?_
    rw [sc1.1]
    have hix := sc1.2
  case' inr.inr.inl =>
    refine cal_eq (checked_sim _ (scT scE scE scU scE scE scE) (by decide) parse_ok) ?_
    generalize checkedP _ = X at q1 q2 q3 q4
  case' inr.inr.inr.inl =>
    refine cal_eq (checked_sim _ (scT scE scE scE scU scE scE) (by decide) parse_ok) ?_
    generalize checkedP _ = X at q1 q2 q3 q4
  case' inr.inr.inr.inr.inl =>
    refine cal_eq (checked_sim _ (scT scE scE scE scE scU scE) (by decide) parse_ok) ?_
    rw [sc4.1]
    have hix := sc4.2
  case' inr.inr.inr.inr.inr =>
    refine cal_eq (checked_sim _ (scT scE scE scE scE scE scU) (by decide) parse_ok) ?_
    rw [sc5.1]
    have hix := sc5.2
  all_goals first | (simp only [go_sem, Nat.reduceEqDiff, Nat.reduceBEq, Int.reduceToNat, Int.reduceLT, Int.reduceLE, Int.reduceEq, Nat.reduceLeDiff, Nat.reduceLT, Nat.reduceMul, Nat.reduceAdd, String.reduceEq, q1, q2, q3, q4]) | (simp only [go_sem, Nat.reduceEqDiff, Nat.reduceBEq, Int.reduceToNat, Int.reduceLT, Int.reduceLE, Int.reduceEq, Nat.reduceLeDiff, Nat.reduceLT, Nat.reduceMul, Nat.reduceAdd, String.reduceEq, hix])
  all_goals (refine hQ .ret _ ?_; clear hQ Q; refine post_ret _ _ (bb true) ?_ rfl (DropW.tail0 _ rfl) ⟨rfl, rfl⟩)
  all_goals simp only [go_sem, Nat.reduceEqDiff, Nat.reduceBEq, Int.reduceToNat, Int.reduceLT, Int.reduceLE, Int.reduceEq, Nat.reduceLeDiff, Nat.reduceLT, Nat.reduceMul, Nat.reduceAdd, String.reduceEq]
  all_goals rfl
end Go.Proofs.Ytphjldhdnmoolaa.A
/- The walks of some functions over the abstract machine. -/
namespace Go.Proofs.Ytphjldhdnmoolaa.A
open Go
/-! law09: its fixed fact -/
def v1 : Bytes := ⟨#[111, 112, 32, 97, 100, 100, 40, 105, 44, 32, 118, 41, 32, 123, 32, 110, 101, 101, 100, 32, 105, 32, 60, 32, 54, 48, 59, 32, 91, 105, 93, 32, 43, 61, 32, 118, 59, 32, 103, 105, 118, 101, 32, 118, 59, 32, 125]⟩
set_option maxRecDepth 100000
theorem v1_code : (parse v1).2.1 = 0 := by rw [parse_Q]; kernel_rfl
theorem z60 : zeros.length = 60 := rfl
theorem v1_a : ∃ r, runP (parse v1).1 0 zeros [3, 5] = some r ∧ r.cs.length = 60 ∧ r.e = 0 ∧ r.n = 5 ∧ getC r.cs 3 = 5 := by rw [parse_Q]; exact ⟨⟨0, zeros.set 3 5, 5, 0⟩, by kernel_rfl, by kernel_rfl, by kernel_rfl, by kernel_rfl, by kernel_rfl⟩
theorem v1_b : ∃ r, runP (parse v1).1 0 zeros [60, 1] = some r ∧ r.cs.length = 60 ∧ r.e = 12 := by rw [parse_Q]; exact ⟨fault0 12, by kernel_rfl, by kernel_rfl, by kernel_rfl⟩
theorem v1_c : ∃ r, runP (parse v1).1 0 zeros [-1, 1] = some r ∧ r.e = 0 ∧ r.lsn = 0 ∧ r.cs = zeros := by rw [parse_Q]; exact ⟨⟨0, zeros, 1, 0⟩, by kernel_rfl, by kernel_rfl, by kernel_rfl, by kernel_rfl⟩
theorem zero_page : ([ii 0, ii 0, ii 0, ii 0, ii 0, ii 0, ii 0, ii 0, ii 0, ii 0, ii 0, ii 0, ii 0, ii 0, ii 0, ii 0, ii 0, ii 0, ii 0, ii 0, ii 0, ii 0, ii 0, ii 0, ii 0, ii 0, ii 0, ii 0, ii 0, ii 0, ii 0, ii 0, ii 0, ii 0, ii 0, ii 0, ii 0, ii 0, ii 0, ii 0, ii 0, ii 0, ii 0, ii 0, ii 0, ii 0, ii 0, ii 0, ii 0, ii 0, ii 0, ii 0, ii 0, ii 0, ii 0, ii 0, ii 0, ii 0, ii 0, ii 0, ii 0] : List IV) = pgI 0 zeros := rfl
theorem errE_0 : errE 0 = .v .nilIface := rfl
theorem errE_12 : errE 12 = .iface 76 (ii 12) := rfl
theorem parse_run {s : Bytes} (hp : (parse s).2.1 = 0) (m : Mem) (lsn : Int) (cs : List Int) (h60 : cs.length = 60) (args : List Int) (r : RunR) (hr : runP (parse s).1 lsn cs args = some r) :
    Sim 30 [.agg (encD (parse s).1), .agg (pgI lsn cs), .sl .sh args.length (args.map (IV.v <| .int .i64 ·))] m (fun x m' => x = runI r ∧ m' = m) := run_sim m _ (parse_ok hp) (fits_arg _ (parse_fit hp).body) lsn cs h60 args r hr
theorem le60 {cs : List Int} (h : cs.length = 60) : 60 ≤ (cs.map (IV.v <| .int .i64 ·)).length := by rw [List.length_map]; omega
theorem tk60 {cs : List Int} (h : cs.length = 60) : (cs.map (IV.v <| .int .i64 ·)).take 60 = cs.map (IV.v <| .int .i64 ·) := List.take_of_length_le (by rw [List.length_map]; omega)
theorem ml60 {cs : List Int} (h : cs.length = 60) : (cs.map (IV.v <| .int .i64 ·)).length = 60 := by rw [List.length_map]; exact h
theorem ints_pg (a : Int) (l : List Int) : ints (ii a :: l.map (IV.v <| .int .i64 ·)) = some (a :: l) := by simp only [ints]; rw [ints_ints]; rfl
set_option maxRecDepth 100000 in
set_option maxHeartbeats 4000000 in
theorem alive9_sim (m : Mem) : Sim 44 [] m (fun r m' => r = bb true ∧ m' = m) := by
  obtain ⟨ra, ha, la, ea, na, ga⟩ := v1_a
  obtain ⟨rb, hb, lb, eb⟩ := v1_b
  obtain ⟨rc, hc, ec, lc, cc⟩ := v1_c
  have h1 := fun m => parse_sim m v1 (by decide)
  have ka := fun m => parse_run v1_code m 0 zeros z60 [3, 5] ra ha
  have kb := fun m => parse_run v1_code m 0 zeros z60 [60, 1] rb hb
  have kc := fun m => parse_run v1_code m 0 zeros z60 [-1, 1] rc hc
  rw [v1_code] at h1
  generalize (parse v1).2.2 = pl at h1
  generalize (parse v1).1 = D at h1 ka kb kc
  refine Sim.ofS 72 [.tmp 0] Try.func44 rfl rfl rfl (by simp) fun wr => ?_
  simp only [go_sem, Nat.reduceEqDiff, Nat.reduceBEq, Int.reduceToNat, Int.reduceLT, Int.reduceLE, Int.reduceEq, Nat.reduceLeDiff, Nat.reduceLT, Nat.reduceMul, Nat.reduceAdd, String.reduceEq]
  refine TS.seq (TS.of [] fun Q hQ => ?_)
  simp only [go_sem, Nat.reduceEqDiff, Nat.reduceBEq, Int.reduceToNat, Int.reduceLT, Int.reduceLE, Int.reduceEq, Nat.reduceLeDiff, Nat.reduceLT, Nat.reduceMul, Nat.reduceAdd, String.reduceEq]
  refine hQ .normal _ ?_; clear hQ Q
  refine TS.seq (TS.of [] fun Q hQ => ?_)
  simp only [go_sem, Nat.reduceEqDiff, Nat.reduceBEq, Int.reduceToNat, Int.reduceLT, Int.reduceLE, Int.reduceEq, Nat.reduceLeDiff, Nat.reduceLT, Nat.reduceMul, Nat.reduceAdd, String.reduceEq]
  refine cal_eq (h1 _) ?_
  simp only [go_sem, Nat.reduceEqDiff, Nat.reduceBEq, Int.reduceToNat, Int.reduceLT, Int.reduceLE, Int.reduceEq, Nat.reduceLeDiff, Nat.reduceLT, Nat.reduceMul, Nat.reduceAdd, String.reduceEq, encD]
  refine hQ .normal _ ?_; clear hQ Q
  refine TS.seq (TS.of [] fun Q hQ => ?_)
  simp only [go_sem, Nat.reduceEqDiff, Nat.reduceBEq, Int.reduceToNat, Int.reduceLT, Int.reduceLE, Int.reduceEq, Nat.reduceLeDiff, Nat.reduceLT, Nat.reduceMul, Nat.reduceAdd, String.reduceEq, encD]
  have kla : (ra.cs.map (IV.v <| .int .i64 ·)).length = 60 := by rw [List.length_map]; exact la
  have klb : (rb.cs.map (IV.v <| .int .i64 ·)).length = 60 := by rw [List.length_map]; exact lb
  have klc : (rc.cs.map (IV.v <| .int .i64 ·)).length = 60 := by rw [List.length_map, cc]; rfl
  refine cal_eq (ka _) ?_
  simp only [go_sem, Nat.reduceEqDiff, Nat.reduceBEq, Int.reduceToNat, Int.reduceLT, Int.reduceLE, Int.reduceEq, Nat.reduceLeDiff, Nat.reduceLT, Nat.reduceMul, Nat.reduceAdd, String.reduceEq, ints_one, ints_sh, kla]
  refine hQ .normal _ ?_; clear hQ Q
  refine TS.seq (TS.of [] fun Q hQ => ?_)
  simp only [go_sem, Nat.reduceEqDiff, Nat.reduceBEq, Int.reduceToNat, Int.reduceLT, Int.reduceLE, Int.reduceEq, Nat.reduceLeDiff, Nat.reduceLT, Nat.reduceMul, Nat.reduceAdd, String.reduceEq, encD]
  refine cal_eq (kb _) ?_
  simp only [go_sem, Nat.reduceEqDiff, Nat.reduceBEq, Int.reduceToNat, Int.reduceLT, Int.reduceLE, Int.reduceEq, Nat.reduceLeDiff, Nat.reduceLT, Nat.reduceMul, Nat.reduceAdd, String.reduceEq, ints_one, ints_sh, klb]
  refine hQ .normal _ ?_; clear hQ Q
  refine TS.seq (TS.of [] fun Q hQ => ?_)
  simp only [go_sem, Nat.reduceEqDiff, Nat.reduceBEq, Int.reduceToNat, Int.reduceLT, Int.reduceLE, Int.reduceEq, Nat.reduceLeDiff, Nat.reduceLT, Nat.reduceMul, Nat.reduceAdd, String.reduceEq, encD]
  refine cal_eq (kc _) ?_
  simp only [go_sem, Nat.reduceEqDiff, Nat.reduceBEq, Int.reduceToNat, Int.reduceLT, Int.reduceLE, Int.reduceEq, Nat.reduceLeDiff, Nat.reduceLT, Nat.reduceMul, Nat.reduceAdd, String.reduceEq, ints_one, ints_sh, klc]
  refine hQ .normal _ ?_; clear hQ Q
  have hd3 : (ra.cs.map (IV.v <| .int .i64 ·)).drop 3 = ii 5 :: (ra.cs.map (IV.v <| .int .i64 ·)).drop 4 := by
    have h := drop_cells (i := 3) (by decide) (by decide) la ([] : List IV)
    rw [List.append_nil, ga] at h; exact h
  refine TS.of [] fun Q hQ => ?_
  simp only [go_sem, Nat.reduceEqDiff, Nat.reduceBEq, Int.reduceToNat, Int.reduceLT, Int.reduceLE, Int.reduceEq, Nat.reduceLeDiff, Nat.reduceLT, Nat.reduceMul, Nat.reduceAdd, String.reduceEq, ea, eb, ec, errE_0, errE_12, na, lc, cc, hd3, List.append_nil, ints_pg, zero_page, z60, le60 z60, tk60 z60, ints_sh]
  refine hQ .ret _ ?_; clear hQ Q; refine post_ret _ _ (bb true) ?_ rfl (DropW.tail0 _ rfl) ⟨rfl, rfl⟩
  simp only [go_sem, Nat.reduceEqDiff, Nat.reduceBEq, Int.reduceToNat, Int.reduceLT, Int.reduceLE, Int.reduceEq, Nat.reduceLeDiff, Nat.reduceLT, Nat.reduceMul, Nat.reduceAdd, String.reduceEq]
end Go.Proofs.Ytphjldhdnmoolaa.A
/- The walks of some functions over the abstract machine. -/
namespace Go.Proofs.Ytphjldhdnmoolaa.A
open Go
/-! EvalOperators -/
def v2 : Bytes := ⟨#[111, 112, 32, 111, 40, 97, 44, 32, 98, 41, 32, 123, 32, 91, 48, 93, 32, 61, 32, 97, 32, 47, 32, 98, 59, 32, 91, 49, 93, 32, 61, 32, 97, 32, 37, 32, 98, 59, 32, 91, 50, 93, 32, 61, 32, 91, 48, 93, 32, 42, 32, 98, 32, 43, 32, 91, 49, 93, 59, 32, 91, 51, 93, 32, 61, 32, 45, 97, 59, 32, 91, 52, 93, 32, 61, 32, 97, 32, 45, 32, 98, 32, 43, 32, 98, 59, 32, 103, 105, 118, 101, 32, 97, 32, 42, 32, 98, 59, 32, 125]⟩
set_option maxRecDepth 100000
theorem v2_code : (parse v2).2.1 = 0 := by rw [parse_Q]; kernel_rfl
def o0 (a b : Int) : Int := if b = 0 then 0 else w64 (a.tdiv b)
def o1 (a b : Int) : Int := if b = 0 then 0 else a.tmod b
def o2 (a b : Int) : Int := w64 (w64 (o0 a b * b) + o1 a b)
def o3 (a : Int) : Int := w64 (0 - a)
def o4 (a b : Int) : Int := w64 (w64 (a - b) + b)
def oC (a b : Int) : List Int := ((((zeros.set 0 (o0 a b)).set 1 (o1 a b)).set 2 (o2 a b)).set 3 (o3 a)).set 4 (o4 a b)
theorem v2_run (a b : Int) : runP (parse v2).1 0 zeros [a, b] = some ⟨0, oC a b, w64 (a * b), 0⟩ := by rw [parse_Q]; kernel_rfl
theorem w64_spec (x : Int) : ∃ k : Int, w64 x = x + 18446744073709551616 * k := by
  simp only [w64, IntKind.wrap, IntKind.bits, IntKind.signed]
  by_cases h : (9223372036854775808 : Int) ≤ x % 18446744073709551616
  · exact ⟨-(x / 18446744073709551616) - 1, by simp at *; omega⟩
  · exact ⟨-(x / 18446744073709551616), by simp at *; omega⟩
theorem w64_eq {x y k : Int} (h0 : -9223372036854775808 ≤ y) (h1 : y < 9223372036854775808) (h : x = y + 18446744073709551616 * k) : w64 x = y := by
  subst h
  simp only [w64, IntKind.wrap, IntKind.bits, IntKind.signed]
  simp
  omega
section
variable {a b : Int} (ha0 : -9223372036854775808 ≤ a) (ha1 : a < 9223372036854775808)
include ha0 ha1
theorem o4_eq : o4 a b = a := by
  obtain ⟨k, hk⟩ := w64_spec (a - b)
  unfold o4
  exact w64_eq ha0 ha1 (k := k) (by rw [hk]; omega)
theorem o2_eq (hb : b ≠ 0) : o2 a b = a := by
  unfold o2 o0 o1
  rw [if_neg hb, if_neg hb]
  obtain ⟨k1, h1⟩ := w64_spec (a.tdiv b)
  rw [h1]
  obtain ⟨k2, h2⟩ := w64_spec ((a.tdiv b + 18446744073709551616 * k1) * b)
  rw [h2, Int.add_mul, Int.mul_assoc]
  have h3 := Int.tdiv_mul_add_tmod a b
  exact w64_eq ha0 ha1 (k := k1 * b + k2) (by rw [Int.mul_add]; omega)
theorem o1_sign (hb : b ≠ 0) : o1 a b = 0 ∨ (o1 a b < 0 ↔ a < 0) := by
  unfold o1
  rw [if_neg hb]
  by_cases h : 0 ≤ a
  · have h2 := Int.tmod_nonneg b h
    by_cases h3 : a.tmod b = 0
    · exact .inl h3
    · right; omega
  · have h2 := Int.tmod_nonneg b (show 0 ≤ -a by omega)
    rw [Int.neg_tmod] at h2
    by_cases h3 : a.tmod b = 0
    · exact .inl h3
    · right; omega
end
theorem oC_len (a b : Int) : (oC a b).length = 60 := by simp [oC, zeros]
theorem oC_map (a b : Int) : (oC a b).map (IV.v <| .int .i64 ·) = ii (o0 a b) :: ii (o1 a b) :: ii (o2 a b) :: ii (o3 a) :: ii (o4 a b) :: (List.replicate 55 0).map (IV.v <| .int .i64 ·) := by
  unfold oC
  generalize o0 a b = x0
  generalize o1 a b = x1
  generalize o2 a b = x2
  generalize o3 a = x3
  generalize o4 a b = x4
  rfl
set_option maxRecDepth 100000 in
set_option maxHeartbeats 4000000 in
theorem operators_law (m : Mem) (a b : Int) (ha0 : -9223372036854775808 ≤ a) (ha1 : a < 9223372036854775808) : Sim 17 [ii a, ii b] m (fun r m' => r = bb true ∧ m' = m) := by
  have h1 := fun m => parse_sim m v2 (by decide)
  have ka := fun m => parse_run v2_code m 0 zeros z60 [a, b] _ (v2_run a b)
  rw [v2_code] at h1
  generalize (parse v2).2.2 = pl at h1
  generalize (parse v2).1 = D at h1 ka
  have l60 := oC_len a b
  have e4 := o4_eq (b := b) ha0 ha1
  refine Sim.ofS 87 [.tmp 4] Try.func17 rfl rfl rfl (by simp) fun wr => ?_
  simp only [go_sem, Nat.reduceEqDiff, Nat.reduceBEq, Int.reduceToNat, Int.reduceLT, Int.reduceLE, Int.reduceEq, Nat.reduceLeDiff, Nat.reduceLT, Nat.reduceMul, Nat.reduceAdd, String.reduceEq]
  refine TS.seq (TS.of [] fun Q hQ => ?_)
  simp only [go_sem, Nat.reduceEqDiff, Nat.reduceBEq, Int.reduceToNat, Int.reduceLT, Int.reduceLE, Int.reduceEq, Nat.reduceLeDiff, Nat.reduceLT, Nat.reduceMul, Nat.reduceAdd, String.reduceEq]
  refine hQ .normal _ ?_; clear hQ Q
  refine TS.seq (TS.of [] fun Q hQ => ?_)
  simp only [go_sem, Nat.reduceEqDiff, Nat.reduceBEq, Int.reduceToNat, Int.reduceLT, Int.reduceLE, Int.reduceEq, Nat.reduceLeDiff, Nat.reduceLT, Nat.reduceMul, Nat.reduceAdd, String.reduceEq]
  refine cal_eq (alive9_sim _) ?_
  simp only [go_sem, Nat.reduceEqDiff, Nat.reduceBEq, Int.reduceToNat, Int.reduceLT, Int.reduceLE, Int.reduceEq, Nat.reduceLeDiff, Nat.reduceLT, Nat.reduceMul, Nat.reduceAdd, String.reduceEq]
  refine hQ .normal _ ?_; clear hQ Q
  refine TS.seq (TS.of [] fun Q hQ => ?_)
  simp only [go_sem, Nat.reduceEqDiff, Nat.reduceBEq, Int.reduceToNat, Int.reduceLT, Int.reduceLE, Int.reduceEq, Nat.reduceLeDiff, Nat.reduceLT, Nat.reduceMul, Nat.reduceAdd, String.reduceEq]
  refine cal_eq (h1 _) ?_
  simp only [go_sem, Nat.reduceEqDiff, Nat.reduceBEq, Int.reduceToNat, Int.reduceLT, Int.reduceLE, Int.reduceEq, Nat.reduceLeDiff, Nat.reduceLT, Nat.reduceMul, Nat.reduceAdd, String.reduceEq, encD]
  refine hQ .normal _ ?_; clear hQ Q
  refine TS.seq (TS.of [] fun Q hQ => ?_)
  simp only [go_sem, Nat.reduceEqDiff, Nat.reduceBEq, Int.reduceToNat, Int.reduceLT, Int.reduceLE, Int.reduceEq, Nat.reduceLeDiff, Nat.reduceLT, Nat.reduceMul, Nat.reduceAdd, String.reduceEq]
  refine hQ .normal _ ?_; clear hQ Q
  refine TS.seq (TS.of [] fun Q hQ => ?_)
  simp only [go_sem, Nat.reduceEqDiff, Nat.reduceBEq, Int.reduceToNat, Int.reduceLT, Int.reduceLE, Int.reduceEq, Nat.reduceLeDiff, Nat.reduceLT, Nat.reduceMul, Nat.reduceAdd, String.reduceEq, encD]
  refine cal_eq (ka _) ?_
  simp only [go_sem, Nat.reduceEqDiff, Nat.reduceBEq, Int.reduceToNat, Int.reduceLT, Int.reduceLE, Int.reduceEq, Nat.reduceLeDiff, Nat.reduceLT, Nat.reduceMul, Nat.reduceAdd, String.reduceEq, ints_one, ints_sh, ml60 l60]
  refine hQ .normal _ ?_; clear hQ Q
  refine TS.seq (TS.of [] fun Q hQ => ?_)
  simp only [go_sem, Nat.reduceEqDiff, Nat.reduceBEq, Int.reduceToNat, Int.reduceLT, Int.reduceLE, Int.reduceEq, Nat.reduceLeDiff, Nat.reduceLT, Nat.reduceMul, Nat.reduceAdd, String.reduceEq, ints_one, ints_sh, ml60 l60, le60 l60, tk60 l60, List.append_nil]
  refine hQ .normal _ ?_; clear hQ Q
  have hm := oC_map a b
  rw [e4] at hm
  by_cases hb : b = 0
  · subst hb
    have x0 : o0 a 0 = 0 := by rw [o0, if_pos rfl]
    have x1 : o1 a 0 = 0 := by rw [o1, if_pos rfl]
    have x2 : o2 a 0 = 0 := by rw [o2, x0, x1]; simp; decide
    rw [x0, x1, x2] at hm
    refine TS.of [] fun Q hQ => ?_
    simp only [go_sem, Nat.reduceEqDiff, Nat.reduceBEq, Int.reduceToNat, Int.reduceLT, Int.reduceLE, Int.reduceEq, Nat.reduceLeDiff, Nat.reduceLT, Nat.reduceMul, Nat.reduceAdd, String.reduceEq, errE_0, hm, o3, List.append_nil]
    refine hQ .ret _ ?_; clear hQ Q; refine post_ret _ _ (bb true) ?_ rfl (DropW.tail0 _ rfl) ⟨rfl, rfl⟩
    simp only [go_sem, Nat.reduceEqDiff, Nat.reduceBEq, Int.reduceToNat, Int.reduceLT, Int.reduceLE, Int.reduceEq, Nat.reduceLeDiff, Nat.reduceLT, Nat.reduceMul, Nat.reduceAdd, String.reduceEq]
  have x2 := o2_eq (b := b) ha0 ha1 hb
  have x1 := o1_sign (b := b) ha0 ha1 hb
  rw [x2] at hm
  generalize o1 a b = c1 at hm x1
  by_cases hc : c1 = 0
  · subst hc
    refine TS.of [] fun Q hQ => ?_
    simp only [go_sem, Nat.reduceEqDiff, Nat.reduceBEq, Int.reduceToNat, Int.reduceLT, Int.reduceLE, Int.reduceEq, Nat.reduceLeDiff, Nat.reduceLT, Nat.reduceMul, Nat.reduceAdd, String.reduceEq, errE_0, hm, o3, List.append_nil, eq_false hb]
    refine hQ .ret _ ?_; clear hQ Q; refine post_ret _ _ (bb true) ?_ rfl (DropW.tail0 _ rfl) ⟨rfl, rfl⟩
    simp only [go_sem, Nat.reduceEqDiff, Nat.reduceBEq, Int.reduceToNat, Int.reduceLT, Int.reduceLE, Int.reduceEq, Nat.reduceLeDiff, Nat.reduceLT, Nat.reduceMul, Nat.reduceAdd, String.reduceEq]
  · have x3 : c1 < 0 ↔ a < 0 := by rcases x1 with h | h; exact absurd h hc; exact h
    refine TS.of [] fun Q hQ => ?_
    simp only [go_sem, Nat.reduceEqDiff, Nat.reduceBEq, Int.reduceToNat, Int.reduceLT, Int.reduceLE, Int.reduceEq, Nat.reduceLeDiff, Nat.reduceLT, Nat.reduceMul, Nat.reduceAdd, String.reduceEq, errE_0, hm, o3, List.append_nil, eq_false hb, eq_false hc, x3]
    refine hQ .ret _ ?_; clear hQ Q; refine post_ret _ _ (bb true) ?_ rfl (DropW.tail0 _ rfl) ⟨rfl, rfl⟩
    simp only [go_sem, Nat.reduceEqDiff, Nat.reduceBEq, Int.reduceToNat, Int.reduceLT, Int.reduceLE, Int.reduceEq, Nat.reduceLeDiff, Nat.reduceLT, Nat.reduceMul, Nat.reduceAdd, String.reduceEq]
end Go.Proofs.Ytphjldhdnmoolaa.A
/- The walks of some functions over the abstract machine. -/
namespace Go.Proofs.Ytphjldhdnmoolaa.A
open Go
/-! EvalNeeds -/
def v3 : Bytes := ⟨#[111, 112, 32, 111, 40, 110, 44, 32, 118, 41, 32, 123, 32, 110, 101, 101, 100, 32, 91, 53, 93, 32, 61, 61, 32, 110, 59, 32, 110, 101, 101, 100, 32, 91, 54, 93, 32, 61, 61, 32, 48, 59, 32, 91, 53, 93, 32, 61, 32, 118, 59, 32, 91, 54, 93, 32, 60, 62, 32, 91, 53, 93, 59, 32, 103, 105, 118, 101, 32, 91, 54, 93, 32, 45, 32, 91, 53, 93, 59, 32, 125]⟩
set_option maxRecDepth 100000
theorem v3_code : (parse v3).2.1 = 0 := by rw [parse_Q]; kernel_rfl
def nC (w nw : Int) : List Int := (((zeros.set 5 w).set 5 nw).set 6 nw).set 5 0
theorem v3_chk : (check (parse v3).1).2 = none := by rw [parse_Q]; kernel_rfl
theorem v3_par : (parse v3).1.params.length = 2 := by rw [parse_Q]; kernel_rfl
theorem v3_n (w nd nw : Int) : needsP (parse v3).1.needs (rs0 (parse v3).1 0 (zeros.set 5 w) [nd, nw]) = if bit (decide (w = nd)) = 0 then some false else some true := by rw [parse_Q]; kernel_rfl
theorem v3_b (w nd nw : Int) : ((runB (parse v3).1.body (rs0 (parse v3).1 0 (zeros.set 5 w) [nd, nw])).bind fun r => (giveP (parse v3).1.give 0 r).map fun n => (⟨r.lsn, r.cs, n, 0⟩ : RunR)) = some ⟨0, nC w nw, w64 (nw - 0), 0⟩ := by rw [parse_Q]; kernel_rfl
theorem runP_of {d : Def} {lsn : Int} {cs args : List Int} {x : RunR} (h1 : (check d).2 = none) (h2 : args.length = d.params.length) (h3 : needsP d.needs (rs0 d lsn cs args) = some true) (h4 : ((runB d.body (rs0 d lsn cs args)).bind fun r => (giveP d.give 0 r).map fun n => (⟨r.lsn, r.cs, n, 0⟩ : RunR)) = some x) : runP d lsn cs args = some x := by
  unfold runP; rw [h1, if_neg (by simp), if_neg (by simpa using h2), h3, Option.bind_some, if_pos rfl]; exact h4
theorem runP_no {d : Def} {lsn : Int} {cs args : List Int} (h1 : (check d).2 = none) (h2 : args.length = d.params.length) (h3 : needsP d.needs (rs0 d lsn cs args) = some false) : runP d lsn cs args = some (fault0 12) := by
  unfold runP; rw [h1, if_neg (by simp), if_neg (by simpa using h2), h3, Option.bind_some, if_neg (by simp)]
theorem v3_run (w nd nw : Int) : runP (parse v3).1 0 (zeros.set 5 w) [nd, nw] = if w = nd then some ⟨0, nC w nw, w64 (nw - 0), 0⟩ else some (fault0 12) := by
  have hn := v3_n w nd nw
  by_cases h : w = nd
  · rw [decide_eq_true h, if_neg (by decide)] at hn
    rw [if_pos h]
    exact runP_of v3_chk (by rw [v3_par]; rfl) hn (v3_b w nd nw)
  · rw [decide_eq_false h, if_pos (by decide)] at hn
    rw [if_neg h]
    exact runP_no v3_chk (by rw [v3_par]; rfl) hn
theorem nC_len (w nw : Int) : (nC w nw).length = 60 := by simp [nC, zeros]
theorem nC_map (w nw : Int) : (nC w nw).map (IV.v <| .int .i64 ·) = ii 0 :: ii 0 :: ii 0 :: ii 0 :: ii 0 :: ii 0 :: ii nw :: (List.replicate 53 0).map (IV.v <| .int .i64 ·) := rfl
theorem w5_map (w : Int) : (ii 0 :: (zeros.set 5 w).map (IV.v <| .int .i64 ·)) = ii 0 :: ii 0 :: ii 0 :: ii 0 :: ii 0 :: ii 0 :: ii w :: (List.replicate 54 0).map (IV.v <| .int .i64 ·) := rfl
set_option maxRecDepth 100000 in
set_option maxHeartbeats 4000000 in
theorem needs_law (m : Mem) (w nw nd : Int) (h0 : -9223372036854775808 ≤ nw) (h1 : nw < 9223372036854775808) : Sim 18 [ii w, ii nw, ii nd] m (fun r m' => r = bb true ∧ m' = m) := by
  have hp := fun m => parse_sim m v3 (by decide)
  have hr := v3_run w nd nw
  have hw : w64 (nw - 0) = nw := w64_eq (k := 0) h0 h1 (by omega)
  rw [hw] at hr
  have ka := fun m r hr => parse_run v3_code m 0 (zeros.set 5 w) (by simp [zeros]) [nd, nw] r hr
  rw [v3_code] at hp
  generalize (parse v3).2.2 = pl at hp
  generalize (parse v3).1 = D at hp ka hr
  refine Sim.ofS 72 [.tmp 6] Try.func18 rfl rfl rfl (by simp) fun wr => ?_
  simp only [go_sem, Nat.reduceEqDiff, Nat.reduceBEq, Int.reduceToNat, Int.reduceLT, Int.reduceLE, Int.reduceEq, Nat.reduceLeDiff, Nat.reduceLT, Nat.reduceMul, Nat.reduceAdd, String.reduceEq]
  refine TS.seq (TS.of [] fun Q hQ => ?_)
  simp only [go_sem, Nat.reduceEqDiff, Nat.reduceBEq, Int.reduceToNat, Int.reduceLT, Int.reduceLE, Int.reduceEq, Nat.reduceLeDiff, Nat.reduceLT, Nat.reduceMul, Nat.reduceAdd, String.reduceEq]
  refine hQ .normal _ ?_; clear hQ Q
  refine TS.seq (TS.of [] fun Q hQ => ?_)
  simp only [go_sem, Nat.reduceEqDiff, Nat.reduceBEq, Int.reduceToNat, Int.reduceLT, Int.reduceLE, Int.reduceEq, Nat.reduceLeDiff, Nat.reduceLT, Nat.reduceMul, Nat.reduceAdd, String.reduceEq]
  refine cal_eq (alive9_sim _) ?_
  simp only [go_sem, Nat.reduceEqDiff, Nat.reduceBEq, Int.reduceToNat, Int.reduceLT, Int.reduceLE, Int.reduceEq, Nat.reduceLeDiff, Nat.reduceLT, Nat.reduceMul, Nat.reduceAdd, String.reduceEq]
  refine hQ .normal _ ?_; clear hQ Q
  refine TS.seq (TS.of [] fun Q hQ => ?_)
  simp only [go_sem, Nat.reduceEqDiff, Nat.reduceBEq, Int.reduceToNat, Int.reduceLT, Int.reduceLE, Int.reduceEq, Nat.reduceLeDiff, Nat.reduceLT, Nat.reduceMul, Nat.reduceAdd, String.reduceEq]
  refine cal_eq (hp _) ?_
  simp only [go_sem, Nat.reduceEqDiff, Nat.reduceBEq, Int.reduceToNat, Int.reduceLT, Int.reduceLE, Int.reduceEq, Nat.reduceLeDiff, Nat.reduceLT, Nat.reduceMul, Nat.reduceAdd, String.reduceEq, encD]
  refine hQ .normal _ ?_; clear hQ Q
  refine TS.seq (TS.of [] fun Q hQ => ?_)
  simp only [go_sem, Nat.reduceEqDiff, Nat.reduceBEq, Int.reduceToNat, Int.reduceLT, Int.reduceLE, Int.reduceEq, Nat.reduceLeDiff, Nat.reduceLT, Nat.reduceMul, Nat.reduceAdd, String.reduceEq]
  refine hQ .normal _ ?_; clear hQ Q
  refine TS.seq (TS.of [] fun Q hQ => ?_)
  simp only [go_sem, Nat.reduceEqDiff, Nat.reduceBEq, Int.reduceToNat, Int.reduceLT, Int.reduceLE, Int.reduceEq, Nat.reduceLeDiff, Nat.reduceLT, Nat.reduceMul, Nat.reduceAdd, String.reduceEq]
  refine hQ .normal _ ?_; clear hQ Q
  refine TS.seq (TS.of [] fun Q hQ => ?_)
  simp only [go_sem, Nat.reduceEqDiff, Nat.reduceBEq, Int.reduceToNat, Int.reduceLT, Int.reduceLE, Int.reduceEq, Nat.reduceLeDiff, Nat.reduceLT, Nat.reduceMul, Nat.reduceAdd, String.reduceEq]
  refine hQ .normal _ ?_; clear hQ Q
  by_cases h : w = nd
  · rw [if_pos h] at hr
    subst h
    have kb := fun m => ka m _ hr
    have l60 := nC_len w nw
    refine TS.seq (TS.of [] fun Q hQ => ?_)
    simp only [go_sem, Nat.reduceEqDiff, Nat.reduceBEq, Int.reduceToNat, Int.reduceLT, Int.reduceLE, Int.reduceEq, Nat.reduceLeDiff, Nat.reduceLT, Nat.reduceMul, Nat.reduceAdd, String.reduceEq, encD]
    refine cal_eq (kb _) ?_
    simp only [go_sem, Nat.reduceEqDiff, Nat.reduceBEq, Int.reduceToNat, Int.reduceLT, Int.reduceLE, Int.reduceEq, Nat.reduceLeDiff, Nat.reduceLT, Nat.reduceMul, Nat.reduceAdd, String.reduceEq, ints_one, ints_sh, ml60 l60]
    refine hQ .normal _ ?_; clear hQ Q
    have hm := nC_map w nw
    refine TS.of [] fun Q hQ => ?_
    simp only [go_sem, Nat.reduceEqDiff, Nat.reduceBEq, Int.reduceToNat, Int.reduceLT, Int.reduceLE, Int.reduceEq, Nat.reduceLeDiff, Nat.reduceLT, Nat.reduceMul, Nat.reduceAdd, String.reduceEq, errE_0, hm, List.append_nil]
    refine hQ .ret _ ?_; clear hQ Q; refine post_ret _ _ (bb true) ?_ rfl (DropW.tail0 _ rfl) ⟨rfl, rfl⟩
    simp only [go_sem, Nat.reduceEqDiff, Nat.reduceBEq, Int.reduceToNat, Int.reduceLT, Int.reduceLE, Int.reduceEq, Nat.reduceLeDiff, Nat.reduceLT, Nat.reduceMul, Nat.reduceAdd, String.reduceEq]
  · rw [if_neg h] at hr
    have kb := fun m => ka m _ hr
    refine TS.seq (TS.of [] fun Q hQ => ?_)
    simp only [go_sem, Nat.reduceEqDiff, Nat.reduceBEq, Int.reduceToNat, Int.reduceLT, Int.reduceLE, Int.reduceEq, Nat.reduceLeDiff, Nat.reduceLT, Nat.reduceMul, Nat.reduceAdd, String.reduceEq, encD]
    refine cal_eq (kb _) ?_
    simp only [go_sem, Nat.reduceEqDiff, Nat.reduceBEq, Int.reduceToNat, Int.reduceLT, Int.reduceLE, Int.reduceEq, Nat.reduceLeDiff, Nat.reduceLT, Nat.reduceMul, Nat.reduceAdd, String.reduceEq, ints_one, ints_sh, ml60 z60]
    refine hQ .normal _ ?_; clear hQ Q
    refine TS.of [] fun Q hQ => ?_
    simp only [go_sem, Nat.reduceEqDiff, Nat.reduceBEq, Int.reduceToNat, Int.reduceLT, Int.reduceLE, Int.reduceEq, Nat.reduceLeDiff, Nat.reduceLT, Nat.reduceMul, Nat.reduceAdd, String.reduceEq, errE_12, List.append_nil, eq_false h, zero_page, ints_pg, z60, le60 z60, tk60 z60, ints_sh]
    refine hQ .ret _ ?_; clear hQ Q; refine post_ret _ _ (bb true) ?_ rfl (DropW.tail0 _ rfl) ⟨rfl, rfl⟩
    simp only [go_sem, Nat.reduceEqDiff, Nat.reduceBEq, Int.reduceToNat, Int.reduceLT, Int.reduceLE, Int.reduceEq, Nat.reduceLeDiff, Nat.reduceLT, Nat.reduceMul, Nat.reduceAdd, String.reduceEq]
end Go.Proofs.Ytphjldhdnmoolaa.A
/- The walks of some functions over the abstract machine. -/
namespace Go.Proofs.Ytphjldhdnmoolaa.A
open Go
/-! pages filled -/
def fillK (l : List Int) : Nat → List Int
  | 0 => zeros
  | k + 1 => if l = [] then fillK l k else (fillK l k).set k (l.getD (k % l.length) 0)
theorem fillK_len (l : List Int) : ∀ k, (fillK l k).length = 60
  | 0 => rfl
  | k + 1 => by rw [fillK]; split <;> simp [fillK_len l k]
def filledP (l : List Int) : List Int := fillK l 60
theorem filled_len (l : List Int) : (filledP l).length = 60 := fillK_len l 60
theorem drop_c0 {cs : List Int} {i : Int} (h0 : 0 ≤ i) (h1 : i < 60) (hl : cs.length = 60) (a : IV) : (a :: cs.map (IV.v <| .int .i64 ·)).drop (1 + i.toNat) = ii (getC cs i) :: (cs.map (IV.v <| .int .i64 ·)).drop (i.toNat + 1) := by
  have h := drop_cells' h0 h1 hl a []
  simpa using h
theorem set_c0 {cs : List Int} {i : Int} {v : Int} (h0 : 0 ≤ i) (h1 : i < 60) (hl : cs.length = 60) (a : IV) : (a :: cs.map (IV.v <| .int .i64 ·)).take (1 + i.toNat) ++ ii v :: (cs.map (IV.v <| .int .i64 ·)).drop (1 + i.toNat) = a :: (cs.set i.toNat v).map (IV.v <| .int .i64 ·) := by
  have h := set_cells' (v := v) h0 h1 hl a []
  simpa using h
set_option maxRecDepth 100000 in
set_option maxHeartbeats 4000000 in
theorem filled_sim (m : Mem) (l : List Int) (hl : l.length < 4000000000000000000) : Sim 45 [.sl .sh l.length (l.map (IV.v <| .int .i64 ·))] m (fun r m' => r = .agg (pgI 5 (filledP l)) ∧ m' = m) := by
  have hg : l.length = 0 ↔ l = [] := List.length_eq_zero_iff
  refine Sim.ofS 24 [.cell 2 50] Try.func45 rfl rfl rfl (by simp) fun wr => ?_
  simp only [go_sem, Nat.reduceEqDiff, Nat.reduceBEq, Int.reduceToNat, Int.reduceLT, Int.reduceLE, Int.reduceEq, Nat.reduceLeDiff, Nat.reduceLT, Nat.reduceMul, Nat.reduceAdd, String.reduceEq]
  refine TS.seq (TS.of [] fun Q hQ => ?_)
  simp only [go_sem, Nat.reduceEqDiff, Nat.reduceBEq, Int.reduceToNat, Int.reduceLT, Int.reduceLE, Int.reduceEq, Nat.reduceLeDiff, Nat.reduceLT, Nat.reduceMul, Nat.reduceAdd, String.reduceEq]
  refine hQ .normal _ ?_; clear hQ Q
  refine TS.seq (TS.of [] fun Q hQ => ?_)
  simp only [go_sem, Nat.reduceEqDiff, Nat.reduceBEq, Int.reduceToNat, Int.reduceLT, Int.reduceLE, Int.reduceEq, Nat.reduceLeDiff, Nat.reduceLT, Nat.reduceMul, Nat.reduceAdd, String.reduceEq]
  refine hQ .normal _ ?_; clear hQ Q
  refine TS.seq (TS.seq (TS.of [] fun Q hQ => ?_))
  simp only [go_sem, Nat.reduceEqDiff, Nat.reduceBEq, Int.reduceToNat, Int.reduceLT, Int.reduceLE, Int.reduceEq, Nat.reduceLeDiff, Nat.reduceLT, Nat.reduceMul, Nat.reduceAdd, String.reduceEq]
  refine hQ .normal _ ?_; clear hQ Q
  refine TS.block (TS.loop (α := Nat) (fun k => [(0, .sl .sh l.length (l.map (IV.v <| .int .i64 ·))), (2, .ptr m.objs.length 0), (3, .ptr (m.objs.length + 1) 0), (6, ii k)]) (fun k => ⟨m.objs ++ [.cells zP, .cells (pgI 5 (fillK l k))], m.rows⟩) (fun k => k ≤ 60) (fun k => 60 - k) 0 (by simp) ⟨by simp [Has, upd_apply, argsT], rfl, by omega⟩ ?_)
  rintro k st hH hm hk
  simp only [Has, List.mem_cons, List.not_mem_nil, or_false, forall_eq_or_imp, forall_eq] at hH; obtain ⟨i0, i2, i3, i6⟩ := hH
  have l60 := fillK_len l k
  have hDk : ∀ c, DropW ⟨m.objs ++ [.cells zP, .cells (pgI 5 (fillK l k))], m.rows⟩ (m.objs.length + 2) m.rows.length ⟨m.objs ++ [.cells zP, .cells (pgI 5 c)], m.rows⟩ ⟨m.objs ++ [.cells zP, .cells (pgI 5 c)], m.rows⟩ := fun c => DropW.loc m.objs [.cells zP, .cells (pgI 5 (fillK l k))] [.cells zP, .cells (pgI 5 c)] [] _ _ _ (Nat.le_refl _) (by simp [IObj.np, npL, IV.np, np_ints]) (Nat.le_refl _) (by simp)
  by_cases hlt : k < 60
  · have hlt' : (k : Int) < 60 := by omega
    have hw : IntKind.i64.wrap ((k : Int) + 1) = ((k + 1 : Nat) : Int) := by rw [wrap_id (by omega) (by omega)]; omega
    by_cases hl0 : l = []
    · have hz : ¬ (0 : Int) < (l.length : Int) := by rw [hl0]; simp
      have hf : fillK l (k + 1) = fillK l k := by rw [fillK, if_pos hl0]
      refine TS.of [] fun Q hQ => ?_
      simp only [go_sem, Nat.reduceEqDiff, Nat.reduceBEq, Int.reduceToNat, Int.reduceLT, Int.reduceLE, Int.reduceEq, Nat.reduceLeDiff, Nat.reduceLT, Nat.reduceMul, Nat.reduceAdd, String.reduceEq, i0, i2, i3, i6, hm, hlt', hz, hw]
      refine hQ .normal _ ?_; clear hQ Q
      refine ⟨m.objs.length + 2, m.rows.length, k + 1, hf ▸ hDk (fillK l k), ?_, hlt, by omega⟩
      simp [upd_apply, i0, i2, i3, IV.np, np_sh, np_ints]
    · have hp : 0 < l.length := by rw [Nat.pos_iff_ne_zero]; exact fun h => hl0 (hg.1 h)
      have hp' : (0 : Int) < (l.length : Int) := by omega
      have hm0 : ¬ ((l.length : Int) = 0) := by omega
      have hmd : (k : Int).tmod (l.length : Int) = ((k % l.length : Nat) : Int) := by rw [Int.tmod_eq_emod_of_nonneg (by omega)]; rfl
      have hml := Nat.mod_lt k hp
      have hat : (l.map (IV.v <| .int .i64 ·)).drop (k % l.length) = ii (l.getD (k % l.length) 0) :: (l.map (IV.v <| .int .i64 ·)).drop (k % l.length + 1) := by
        rw [List.drop_eq_getElem_cons (by rw [List.length_map]; exact hml)]
        congr 1
        rw [List.getElem_map, List.getD_eq_getElem?_getD, List.getElem?_eq_getElem hml]; rfl
      have hf : fillK l (k + 1) = (fillK l k).set k (l.getD (k % l.length) 0) := by rw [fillK, if_neg hl0]
      have hfit : 1 + k ≤ (fillK l k).length := by omega
      have hsp := fun v a => set_c0 (i := (k : Int)) (v := v) (by omega) hlt' l60 a
      simp only [Int.toNat_natCast] at hsp
      refine TS.of [] fun Q hQ => ?_
      simp only [go_sem, Nat.reduceEqDiff, Nat.reduceBEq, Int.reduceToNat, Int.reduceLT, Int.reduceLE, Int.reduceEq, Nat.reduceLeDiff, Nat.reduceLT, Nat.reduceMul, Nat.reduceAdd, String.reduceEq, i0, i2, i3, i6, hm, hlt', hp', hm0, hmd, hml, hat, List.length_map, hw, hfit, hsp]
      refine hQ .normal _ ?_; clear hQ Q
      refine ⟨m.objs.length + 2, m.rows.length, k + 1, hf ▸ hDk _, ?_, hlt, by omega⟩
      simp [upd_apply, i0, i2, i3, IV.np, np_sh, np_ints]
  · have hlt' : ¬ (k : Int) < 60 := by omega
    refine TS.of [] fun Q hQ => ?_
    simp only [go_sem, Nat.reduceEqDiff, Nat.reduceBEq, Int.reduceToNat, Int.reduceLT, Int.reduceLE, Int.reduceEq, Nat.reduceLeDiff, Nat.reduceLT, Nat.reduceMul, Nat.reduceAdd, String.reduceEq, i0, i2, i3, i6, hm, hlt']
    refine hQ (.exit 0) _ ?_; clear hQ Q
    obtain rfl : k = 60 := by omega
    refine TS.of [] fun Q hQ => ?_
    have dz : (zeros.map (IV.v <| .int .i64 ·)).drop 60 = [] := rfl
    simp only [go_sem, Nat.reduceEqDiff, Nat.reduceBEq, Int.reduceToNat, Int.reduceLT, Int.reduceLE, Int.reduceEq, Nat.reduceLeDiff, Nat.reduceLT, Nat.reduceMul, Nat.reduceAdd, String.reduceEq, i2, i3, le60 l60, tk60 l60, ints_sh, ints_one, ml60 l60, le60 z60, dz, List.append_nil]
    refine hQ .ret _ ?_; clear hQ Q; refine post_ret _ _ (.agg (pgI 5 (filledP l))) ?_ ?_ (DropW.tail0 _ rfl) ⟨rfl, rfl⟩
    · simp only [go_sem, Nat.reduceEqDiff, Nat.reduceBEq, Int.reduceToNat, Int.reduceLT, Int.reduceLE, Int.reduceEq, Nat.reduceLeDiff, Nat.reduceLT, Nat.reduceMul, Nat.reduceAdd, String.reduceEq, i2, le60 l60, tk60 l60, ints_sh]
      rfl
    · simp [IV.np, npL, np_ints]
/-! EvalSwaps -/
def v4 : Bytes := ⟨#[111, 112, 32, 111, 40, 97, 44, 32, 98, 41, 32, 123, 32, 91, 97, 93, 32, 60, 62, 32, 91, 98, 93, 59, 32, 125]⟩
def v5 : Bytes := ⟨#[111, 112, 32, 111, 40, 97, 44, 32, 98, 41, 32, 123, 32, 91, 97, 93, 32, 60, 62, 32, 91, 98, 93, 59, 32, 91, 98, 93, 32, 60, 62, 32, 91, 97, 93, 59, 32, 125]⟩
set_option maxRecDepth 100000
theorem v4_code : (parse v4).2.1 = 0 := by rw [parse_Q]; kernel_rfl
theorem v5_code : (parse v5).2.1 = 0 := by rw [parse_Q]; kernel_rfl
theorem v4_run (cs : List Int) (a b : Int) : runP (parse v4).1 5 cs [a, b] = some ⟨(chg 5 a b (rs0 (parse v4).1 5 cs [a, b])).lsn, (chg 5 a b (rs0 (parse v4).1 5 cs [a, b])).cs, 0, 0⟩ := by rw [parse_Q]; kernel_rfl
theorem chg_kn (k a b : Int) (rs : RS) : (chg k a b rs).kn = rs.kn ∧ (chg k a b rs).kc = rs.kc ∧ (chg k a b rs).lsn = rs.lsn := by
  unfold chg; (repeat' split) <;> simp
abbrev K5 (a b : Int) : List Ent × Nat := putAll (parseQ v5).1.params [a, b] ([], 0)
theorem v5_1 (a b l : Int) (c : List Int) : runS ((parseQ v5).1.body.getD 0 S0) ⟨l, c, (K5 a b).1, (K5 a b).2⟩ = some (chg 5 a b ⟨l, c, (K5 a b).1, (K5 a b).2⟩) := by kernel_rfl
theorem v5_2 (a b l : Int) (c : List Int) : runS ((parseQ v5).1.body.getD 1 S0) ⟨l, c, (K5 a b).1, (K5 a b).2⟩ = some (chg 5 b a ⟨l, c, (K5 a b).1, (K5 a b).2⟩) := by kernel_rfl
theorem v5_b : (parseQ v5).1.body = [(parseQ v5).1.body.getD 0 S0, (parseQ v5).1.body.getD 1 S0] := by kernel_rfl
theorem v5_n : (parseQ v5).1.needs = [] ∧ (parseQ v5).1.give = [] ∧ (check (parseQ v5).1).2 = none ∧ (parseQ v5).1.params.length = 2 := ⟨by kernel_rfl, by kernel_rfl, by kernel_rfl, by kernel_rfl⟩
theorem v5_run (cs : List Int) (a b : Int) : runP (parse v5).1 5 cs [a, b] = some ⟨(chg 5 b a (chg 5 a b (rs0 (parse v5).1 5 cs [a, b]))).lsn, (chg 5 b a (chg 5 a b (rs0 (parse v5).1 5 cs [a, b]))).cs, 0, 0⟩ := by
  rw [parse_Q]
  obtain ⟨n1, n2, n3, n4⟩ := v5_n
  have h0 : rs0 (parseQ v5).1 5 cs [a, b] = ⟨5, cs, (K5 a b).1, (K5 a b).2⟩ := rfl
  rw [h0]
  obtain ⟨e1, e2, e3⟩ := chg_kn 5 a b ⟨5, cs, (K5 a b).1, (K5 a b).2⟩
  have h1 : chg 5 a b ⟨5, cs, (K5 a b).1, (K5 a b).2⟩ = ⟨5, (chg 5 a b ⟨5, cs, (K5 a b).1, (K5 a b).2⟩).cs, (K5 a b).1, (K5 a b).2⟩ := by
    revert e1 e2 e3
    generalize chg 5 a b ⟨5, cs, (K5 a b).1, (K5 a b).2⟩ = z
    intro e1 e2 e3
    cases z; simp only at e1 e2 e3; rw [e1, e2, e3]
  refine runP_of n3 (by rw [n4]; rfl) (by rw [n1]; rfl) ?_
  have hb2 : ∀ s1 s2 r, runB [s1, s2] r = (runS s1 r).bind fun r1 => (runS s2 r1).bind some := fun s1 s2 r => rfl
  rw [n2, v5_b, h0, hb2, v5_1, Option.bind_some, h1, v5_2, Option.bind_some]
  rfl
def swC (a b : Int) (cs : List Int) : List Int := if a < 0 ∨ 60 ≤ a then cs else if b < 0 ∨ 60 ≤ b then cs else (cs.set a.toNat (getC cs b)).set b.toNat (getC cs a)
theorem chg_sw (a b : Int) (rs : RS) : (chg 5 a b rs).cs = swC a b rs.cs := by
  unfold chg swC
  by_cases h1 : a < 0 ∨ 60 ≤ a
  · rw [if_pos h1, if_pos h1]
  · rw [if_neg h1, if_neg h1, if_neg (by decide), if_neg (by decide), if_neg (by decide)]
    by_cases h2 : b < 0 ∨ 60 ≤ b
    · rw [if_pos h2, if_pos h2]
    · rw [if_neg h2, if_neg h2]
theorem sw_len (a b : Int) (cs : List Int) : (swC a b cs).length = cs.length := by unfold swC; (repeat' split) <;> simp
theorem getC_set {cs : List Int} (h60 : cs.length = 60) {i j : Int} (hi : 0 ≤ i ∧ i < 60) (hj : 0 ≤ j ∧ j < 60) (v : Int) : getC (cs.set i.toNat v) j = if i = j then v else getC cs j := by
  have e1 : ∀ c, getC c j = c.getD j.toNat 0 := fun c => by unfold getC; rw [if_neg (by omega)]
  rw [e1, e1, List.getD_eq_getElem?_getD, List.getD_eq_getElem?_getD, List.getElem?_set]
  by_cases h : i = j
  · subst h; rw [if_pos rfl, if_pos (by omega), if_pos rfl]; rfl
  · rw [if_neg (by omega), if_neg h]
theorem ext60 {x y : List Int} (hx : x.length = 60) (hy : y.length = 60) (h : ∀ j : Int, 0 ≤ j ∧ j < 60 → getC x j = getC y j) : x = y := by
  apply List.ext_getElem (by omega)
  intro k h1 h2
  have := h (k : Int) (by omega)
  unfold getC at this
  rw [if_neg (by omega), if_neg (by omega)] at this
  simp only [Int.toNat_natCast, List.getD_eq_getElem?_getD] at this
  rw [List.getElem?_eq_getElem h1, List.getElem?_eq_getElem h2] at this
  exact this
theorem sw_get {cs : List Int} (h60 : cs.length = 60) {a b j : Int} (ha : 0 ≤ a ∧ a < 60) (hb : 0 ≤ b ∧ b < 60) (hj : 0 ≤ j ∧ j < 60) : getC (swC a b cs) j = if b = j then getC cs a else if a = j then getC cs b else getC cs j := by
  unfold swC
  rw [if_neg (by omega), if_neg (by omega), getC_set (by simpa using h60) hb hj, getC_set h60 ha hj]
theorem sw_sw {cs : List Int} (h60 : cs.length = 60) (a b : Int) : swC b a (swC a b cs) = cs := by
  by_cases ha : 0 ≤ a ∧ a < 60
  · by_cases hb : 0 ≤ b ∧ b < 60
    · have hl : (swC a b cs).length = 60 := by rw [sw_len]; exact h60
      refine ext60 (by rw [sw_len]; exact hl) h60 fun j hj => ?_
      rw [sw_get hl hb ha hj, sw_get h60 ha hb hb, sw_get h60 ha hb ha, sw_get h60 ha hb hj]
      by_cases h1 : a = j
      · subst h1; simp
      · by_cases h2 : b = j
        · subst h2; simp [h1]; try (intro h; rw [h])
        · simp [h1, h2]
    · have : ∀ c, swC a b c = c := fun c => by unfold swC; rw [if_neg (by omega), if_pos (by omega)]
      rw [this]; unfold swC; rw [if_pos (by omega)]
  · have : ∀ c, swC a b c = c := fun c => by unfold swC; rw [if_pos (by omega)]
    rw [this]; unfold swC
    by_cases hb : b < 0 ∨ 60 ≤ b
    · rw [if_pos hb]
    · rw [if_neg hb, if_pos (by omega)]
set_option maxRecDepth 100000 in
set_option maxHeartbeats 4000000 in
theorem swaps_law (m : Mem) (l : List Int) (a b : Int) (hl : l.length < 4000000000000000000) : Sim 19 [.sl .sh l.length (l.map (IV.v <| .int .i64 ·)), ii a, ii b] m (fun r m' => r = bb true ∧ m' = m) := by
  have f60 := filled_len l
  have hfl := fun m => filled_sim m l hl
  generalize filledP l = cs at f60 hfl
  have hp4 := fun m => parse_sim m v4 (by decide)
  have hp5 := fun m => parse_sim m v5 (by decide)
  have hr4 := v4_run cs a b
  have hr5 := v5_run cs a b
  have q1 : (chg 5 a b (rs0 (parse v4).1 5 cs [a, b])).lsn = 5 := (chg_kn _ _ _ _).2.2
  have q2 : (chg 5 a b (rs0 (parse v4).1 5 cs [a, b])).cs = swC a b cs := chg_sw _ _ _
  have q3 : (chg 5 b a (chg 5 a b (rs0 (parse v5).1 5 cs [a, b]))).lsn = 5 := (chg_kn _ _ _ _).2.2.trans (chg_kn _ _ _ _).2.2
  have q4 : (chg 5 b a (chg 5 a b (rs0 (parse v5).1 5 cs [a, b]))).cs = cs := by rw [chg_sw, chg_sw]; exact sw_sw f60 a b
  rw [q1, q2] at hr4
  rw [q3, q4] at hr5
  have ka := fun m => parse_run v4_code m 5 cs f60 [a, b] _ hr4
  have kb := fun m => parse_run v5_code m 5 cs f60 [a, b] _ hr5
  rw [v4_code] at hp4
  rw [v5_code] at hp5
  clear hr4 hr5 q1 q2 q3 q4
  generalize (parse v4).2.2 = p4 at hp4
  generalize (parse v4).1 = D4 at hp4 ka
  generalize (parse v5).2.2 = p5 at hp5
  generalize (parse v5).1 = D5 at hp5 kb
  have s60 : (swC a b cs).length = 60 := by rw [sw_len]; exact f60
  refine Sim.ofS 108 [.tmp 6] Try.func19 rfl rfl rfl (by simp) fun wr => ?_
  simp only [go_sem, Nat.reduceEqDiff, Nat.reduceBEq, Int.reduceToNat, Int.reduceLT, Int.reduceLE, Int.reduceEq, Nat.reduceLeDiff, Nat.reduceLT, Nat.reduceMul, Nat.reduceAdd, String.reduceEq]
  refine TS.seq (TS.of [] fun Q hQ => ?_)
  simp only [go_sem, Nat.reduceEqDiff, Nat.reduceBEq, Int.reduceToNat, Int.reduceLT, Int.reduceLE, Int.reduceEq, Nat.reduceLeDiff, Nat.reduceLT, Nat.reduceMul, Nat.reduceAdd, String.reduceEq]
  refine hQ .normal _ ?_; clear hQ Q
  refine TS.seq (TS.of [] fun Q hQ => ?_)
  simp only [go_sem, Nat.reduceEqDiff, Nat.reduceBEq, Int.reduceToNat, Int.reduceLT, Int.reduceLE, Int.reduceEq, Nat.reduceLeDiff, Nat.reduceLT, Nat.reduceMul, Nat.reduceAdd, String.reduceEq]
  refine cal_eq (alive9_sim _) ?_
  simp only [go_sem, Nat.reduceEqDiff, Nat.reduceBEq, Int.reduceToNat, Int.reduceLT, Int.reduceLE, Int.reduceEq, Nat.reduceLeDiff, Nat.reduceLT, Nat.reduceMul, Nat.reduceAdd, String.reduceEq]
  refine hQ .normal _ ?_; clear hQ Q
  refine TS.seq (TS.of [] fun Q hQ => ?_)
  simp only [go_sem, Nat.reduceEqDiff, Nat.reduceBEq, Int.reduceToNat, Int.reduceLT, Int.reduceLE, Int.reduceEq, Nat.reduceLeDiff, Nat.reduceLT, Nat.reduceMul, Nat.reduceAdd, String.reduceEq]
  refine cal_eq (hp4 _) ?_
  simp only [go_sem, Nat.reduceEqDiff, Nat.reduceBEq, Int.reduceToNat, Int.reduceLT, Int.reduceLE, Int.reduceEq, Nat.reduceLeDiff, Nat.reduceLT, Nat.reduceMul, Nat.reduceAdd, String.reduceEq, encD]
  refine hQ .normal _ ?_; clear hQ Q
  refine TS.seq (TS.of [] fun Q hQ => ?_)
  simp only [go_sem, Nat.reduceEqDiff, Nat.reduceBEq, Int.reduceToNat, Int.reduceLT, Int.reduceLE, Int.reduceEq, Nat.reduceLeDiff, Nat.reduceLT, Nat.reduceMul, Nat.reduceAdd, String.reduceEq]
  refine cal_eq (hp5 _) ?_
  simp only [go_sem, Nat.reduceEqDiff, Nat.reduceBEq, Int.reduceToNat, Int.reduceLT, Int.reduceLE, Int.reduceEq, Nat.reduceLeDiff, Nat.reduceLT, Nat.reduceMul, Nat.reduceAdd, String.reduceEq, encD]
  refine hQ .normal _ ?_; clear hQ Q
  refine TS.seq (TS.of [] fun Q hQ => ?_)
  simp only [go_sem, Nat.reduceEqDiff, Nat.reduceBEq, Int.reduceToNat, Int.reduceLT, Int.reduceLE, Int.reduceEq, Nat.reduceLeDiff, Nat.reduceLT, Nat.reduceMul, Nat.reduceAdd, String.reduceEq]
  refine hQ .normal _ ?_; clear hQ Q
  refine TS.seq (TS.of [] fun Q hQ => ?_)
  simp only [go_sem, Nat.reduceEqDiff, Nat.reduceBEq, Int.reduceToNat, Int.reduceLT, Int.reduceLE, Int.reduceEq, Nat.reduceLeDiff, Nat.reduceLT, Nat.reduceMul, Nat.reduceAdd, String.reduceEq]
  refine cal_eq (hfl _) ?_
  simp only [go_sem, Nat.reduceEqDiff, Nat.reduceBEq, Int.reduceToNat, Int.reduceLT, Int.reduceLE, Int.reduceEq, Nat.reduceLeDiff, Nat.reduceLT, Nat.reduceMul, Nat.reduceAdd, String.reduceEq, ints_one, ints_sh, ml60 f60]
  refine hQ .normal _ ?_; clear hQ Q
  refine TS.seq (TS.of [] fun Q hQ => ?_)
  simp only [go_sem, Nat.reduceEqDiff, Nat.reduceBEq, Int.reduceToNat, Int.reduceLT, Int.reduceLE, Int.reduceEq, Nat.reduceLeDiff, Nat.reduceLT, Nat.reduceMul, Nat.reduceAdd, String.reduceEq, encD, List.append_nil, le60 f60, tk60 f60, ints_sh]
  refine cal_eq (ka _) ?_
  simp only [go_sem, Nat.reduceEqDiff, Nat.reduceBEq, Int.reduceToNat, Int.reduceLT, Int.reduceLE, Int.reduceEq, Nat.reduceLeDiff, Nat.reduceLT, Nat.reduceMul, Nat.reduceAdd, String.reduceEq, ints_one, ints_sh, ml60 s60]
  refine hQ .normal _ ?_; clear hQ Q
  refine TS.seq (TS.of [] fun Q hQ => ?_)
  simp only [go_sem, Nat.reduceEqDiff, Nat.reduceBEq, Int.reduceToNat, Int.reduceLT, Int.reduceLE, Int.reduceEq, Nat.reduceLeDiff, Nat.reduceLT, Nat.reduceMul, Nat.reduceAdd, String.reduceEq, encD, List.append_nil, le60 f60, tk60 f60, ints_sh]
  refine cal_eq (kb _) ?_
  simp only [go_sem, Nat.reduceEqDiff, Nat.reduceBEq, Int.reduceToNat, Int.reduceLT, Int.reduceLE, Int.reduceEq, Nat.reduceLeDiff, Nat.reduceLT, Nat.reduceMul, Nat.reduceAdd, String.reduceEq, ints_one, ints_sh, ml60 f60]
  refine hQ .normal _ ?_; clear hQ Q
  refine TS.seq (TS.of [] fun Q hQ => ?_)
  simp only [go_sem, Nat.reduceEqDiff, Nat.reduceBEq, Int.reduceToNat, Int.reduceLT, Int.reduceLE, Int.reduceEq, Nat.reduceLeDiff, Nat.reduceLT, Nat.reduceMul, Nat.reduceAdd, String.reduceEq, errE_0, List.append_nil, le60 f60, tk60 f60, ints_sh, ints_pg, f60]
  refine hQ .normal _ ?_; clear hQ Q
  by_cases ha : a < 0 ∨ 59 < a
  · have hs : swC a b cs = cs := by unfold swC; rw [if_pos (by omega)]
    by_cases h1 : a < 0
    · refine TS.of [] fun Q hQ => ?_
      simp only [go_sem, Nat.reduceEqDiff, Nat.reduceBEq, Int.reduceToNat, Int.reduceLT, Int.reduceLE, Int.reduceEq, Nat.reduceLeDiff, Nat.reduceLT, Nat.reduceMul, Nat.reduceAdd, String.reduceEq, eq_true h1, hs, List.append_nil, le60 f60, tk60 f60, ints_sh, ints_pg, f60]
      refine hQ .ret _ ?_; clear hQ Q; refine post_ret _ _ (bb true) ?_ rfl (DropW.tail0 _ rfl) ⟨rfl, rfl⟩
      simp only [go_sem, Nat.reduceEqDiff, Nat.reduceBEq, Int.reduceToNat, Int.reduceLT, Int.reduceLE, Int.reduceEq, Nat.reduceLeDiff, Nat.reduceLT, Nat.reduceMul, Nat.reduceAdd, String.reduceEq]
    · refine TS.of [] fun Q hQ => ?_
      simp only [go_sem, Nat.reduceEqDiff, Nat.reduceBEq, Int.reduceToNat, Int.reduceLT, Int.reduceLE, Int.reduceEq, Nat.reduceLeDiff, Nat.reduceLT, Nat.reduceMul, Nat.reduceAdd, String.reduceEq, eq_false h1, eq_true (show 59 < a by omega), hs, List.append_nil, le60 f60, tk60 f60, ints_sh, ints_pg, f60]
      refine hQ .ret _ ?_; clear hQ Q; refine post_ret _ _ (bb true) ?_ rfl (DropW.tail0 _ rfl) ⟨rfl, rfl⟩
      simp only [go_sem, Nat.reduceEqDiff, Nat.reduceBEq, Int.reduceToNat, Int.reduceLT, Int.reduceLE, Int.reduceEq, Nat.reduceLeDiff, Nat.reduceLT, Nat.reduceMul, Nat.reduceAdd, String.reduceEq]
  by_cases hb : b < 0 ∨ 59 < b
  · have hs : swC a b cs = cs := by
      unfold swC
      by_cases h : a < 0 ∨ 60 ≤ a
      · rw [if_pos h]
      · rw [if_neg h, if_pos (by omega)]
    by_cases h1 : b < 0
    · refine TS.of [] fun Q hQ => ?_
      simp only [go_sem, Nat.reduceEqDiff, Nat.reduceBEq, Int.reduceToNat, Int.reduceLT, Int.reduceLE, Int.reduceEq, Nat.reduceLeDiff, Nat.reduceLT, Nat.reduceMul, Nat.reduceAdd, String.reduceEq, eq_false (show ¬ a < 0 by omega), eq_false (show ¬ 59 < a by omega), eq_true h1, hs, List.append_nil, le60 f60, tk60 f60, ints_sh, ints_pg, f60]
      refine hQ .ret _ ?_; clear hQ Q; refine post_ret _ _ (bb true) ?_ rfl (DropW.tail0 _ rfl) ⟨rfl, rfl⟩
      simp only [go_sem, Nat.reduceEqDiff, Nat.reduceBEq, Int.reduceToNat, Int.reduceLT, Int.reduceLE, Int.reduceEq, Nat.reduceLeDiff, Nat.reduceLT, Nat.reduceMul, Nat.reduceAdd, String.reduceEq]
    · refine TS.of [] fun Q hQ => ?_
      simp only [go_sem, Nat.reduceEqDiff, Nat.reduceBEq, Int.reduceToNat, Int.reduceLT, Int.reduceLE, Int.reduceEq, Nat.reduceLeDiff, Nat.reduceLT, Nat.reduceMul, Nat.reduceAdd, String.reduceEq, eq_false (show ¬ a < 0 by omega), eq_false (show ¬ 59 < a by omega), eq_false h1, eq_true (show 59 < b by omega), hs, List.append_nil, le60 f60, tk60 f60, ints_sh, ints_pg, f60]
      refine hQ .ret _ ?_; clear hQ Q; refine post_ret _ _ (bb true) ?_ rfl (DropW.tail0 _ rfl) ⟨rfl, rfl⟩
      simp only [go_sem, Nat.reduceEqDiff, Nat.reduceBEq, Int.reduceToNat, Int.reduceLT, Int.reduceLE, Int.reduceEq, Nat.reduceLeDiff, Nat.reduceLT, Nat.reduceMul, Nat.reduceAdd, String.reduceEq]
  have ha0 : 0 ≤ a ∧ a < 60 := by omega
  have hb0 : 0 ≤ b ∧ b < 60 := by omega
  have g1 : getC (swC a b cs) a = getC cs b := by rw [sw_get f60 ha0 hb0 ha0]; by_cases h : b = a; rw [if_pos h, h]; rw [if_neg h, if_pos rfl]
  have g2 : getC (swC a b cs) b = getC cs a := by rw [sw_get f60 ha0 hb0 hb0, if_pos rfl]
  have d1 := fun c (hc : List.length c = 60) x => drop_c0 ha0.1 ha0.2 hc x
  have d2 := fun c (hc : List.length c = 60) x => drop_c0 hb0.1 hb0.2 hc x
  have e1 := d1 _ s60
  have e2 := d2 _ s60
  rw [g1] at e1
  rw [g2] at e2
  refine TS.of [] fun Q hQ => ?_
  simp only [go_sem, Nat.reduceEqDiff, Nat.reduceBEq, Int.reduceToNat, Int.reduceLT, Int.reduceLE, Int.reduceEq, Nat.reduceLeDiff, Nat.reduceLT, Nat.reduceMul, Nat.reduceAdd, String.reduceEq, eq_false (show ¬ a < 0 by omega), eq_false (show ¬ b < 0 by omega), eq_false (show ¬ 59 < a by omega), eq_false (show ¬ 59 < b by omega)]
  refine drn_of ⟨[], [], []⟩ [0, 0, 3, 7, 0, 0, 48, 112, 255, 511, 1023, 1023, 4095, 8191, 1023, 1023, 50175, 115711, 262143, 524287, 1048575] (by kernel_rfl) ?_
  simp only [go_sem, Nat.reduceEqDiff, Nat.reduceBEq, Int.reduceToNat, Int.reduceLT, Int.reduceLE, Int.reduceEq, Nat.reduceLeDiff, Nat.reduceLT, Nat.reduceMul, Nat.reduceAdd, String.reduceEq, List.append_nil, ha0.1, ha0.2, hb0.1, hb0.2, e1, e2, d1 cs f60, d2 cs f60]
  refine hQ .ret _ ?_; clear hQ Q; refine post_ret _ _ (bb true) ?_ rfl (DropW.tail0 _ rfl) ⟨rfl, rfl⟩
  simp only [go_sem, Nat.reduceEqDiff, Nat.reduceBEq, Int.reduceToNat, Int.reduceLT, Int.reduceLE, Int.reduceEq, Nat.reduceLeDiff, Nat.reduceLT, Nat.reduceMul, Nat.reduceAdd, String.reduceEq]
end Go.Proofs.Ytphjldhdnmoolaa.A
/- The walks of some functions over the abstract machine. -/
namespace Go.Proofs.Ytphjldhdnmoolaa.A
open Go
/-! ref08: sizes, reads, has -/
mutual
def sizeE : Expr → Int
  | .mk _ _ _ a _ => 1 + sizeEs a
def sizeEs : List Expr → Int
  | [] => 0
  | e :: l => sizeE e + sizeEs l
end
mutual
theorem sizeE_bd : ∀ e : Expr, 0 < sizeE e ∧ sizeE e ≤ szE e
  | .mk k n s a p => by have := sizeEs_bd a; simp only [sizeE, szE]; omega
theorem sizeEs_bd : ∀ l : List Expr, 0 ≤ sizeEs l ∧ sizeEs l ≤ szs l
  | [] => by simp [sizeEs, szs]
  | e :: l => by have := sizeE_bd e; have := sizeEs_bd l; simp only [sizeEs, szs]; omega
end
theorem sizeE_eq (e : Expr) : sizeE e = 1 + sizeEs e.a := by cases e; rfl
set_option maxRecDepth 100000 in
set_option maxHeartbeats 4000000 in
theorem size_sim (m : Mem) : ∀ (N : Nat), N < 900000 → ∀ (e : Expr), szE e ≤ N → Sim 51 [.agg (encE e)] m (fun r m' => r = ii (sizeE e) ∧ m' = m) := by
  intro N
  induction N using Nat.strongRecOn with
  | ind N ih =>
  intro hB e hN
  have hsz := szE_eq e
  have hll := szs_len e.a
  refine Sim.ofS 21 [.tmp 2] Try.func51 rfl rfl rfl (by simp) fun wr => ?_
  simp only [go_sem, Nat.reduceEqDiff, Nat.reduceBEq, Int.reduceToNat, Int.reduceLT, Int.reduceLE, Int.reduceEq, Nat.reduceLeDiff, Nat.reduceLT, Nat.reduceMul, Nat.reduceAdd, String.reduceEq]
  refine TS.seq (TS.of [1] fun Q hQ => ?_)
  simp only [go_sem, Nat.reduceEqDiff, Nat.reduceBEq, Int.reduceToNat, Int.reduceLT, Int.reduceLE, Int.reduceEq, Nat.reduceLeDiff, Nat.reduceLT, Nat.reduceMul, Nat.reduceAdd, String.reduceEq, encE_eq]
  refine hQ .normal _ ?_; clear hQ Q
  refine TS.seq (TS.of [] fun Q hQ => ?_)
  simp only [go_sem, Nat.reduceEqDiff, Nat.reduceBEq, Int.reduceToNat, Int.reduceLT, Int.reduceLE, Int.reduceEq, Nat.reduceLeDiff, Nat.reduceLT, Nat.reduceMul, Nat.reduceAdd, String.reduceEq]
  refine hQ .normal _ ?_; clear hQ Q
  refine TS.seq (TS.seq (TS.of [] fun Q hQ => ?_))
  simp only [go_sem, Nat.reduceEqDiff, Nat.reduceBEq, Int.reduceToNat, Int.reduceLT, Int.reduceLE, Int.reduceEq, Nat.reduceLeDiff, Nat.reduceLT, Nat.reduceMul, Nat.reduceAdd, String.reduceEq]
  refine hQ .normal _ ?_; clear hQ Q
  refine TS.block (TS.loop (α := Nat × Int) (fun x => [(1, .ref (encE e)), (3, ii x.2), (4, ii x.1)]) (fun _ => m) (fun x => x.1 ≤ e.a.length ∧ 0 ≤ x.2 ∧ x.2 + sizeEs (e.a.drop x.1) = 1 + sizeEs e.a) (fun x => e.a.length - x.1) (0, 1) (by simp) ⟨by simp [Has, upd_apply, argsT, encE_eq], rfl, by simp⟩ ?_)
  rintro ⟨k, n⟩ st hH hm ⟨hk, hn0, hc⟩
  dsimp only at hH hm hk hn0 hc
  simp only [Has, List.mem_cons, List.not_mem_nil, or_false, forall_eq_or_imp, forall_eq] at hH; obtain ⟨i1, i3, i4⟩ := hH
  have hbd := sizeEs_bd e.a
  by_cases hlt : k < e.a.length
  · obtain ⟨x, hx⟩ : ∃ x, e.a[k]? = some x := ⟨_, List.getElem?_eq_getElem hlt⟩
    have hdr : e.a.drop k = x :: e.a.drop (k + 1) := by rw [List.drop_eq_getElem_cons hlt]; congr 1; exact Option.some.inj ((List.getElem?_eq_getElem hlt).symm.trans hx)
    have hat := encEs_at hx
    have hlt5 : k * 5 < (encEs e.a).length := by rw [encEs_length]; omega
    have hw := wrap_succ hlt (by omega)
    have hszx := szE_at hx
    rw [hdr, sizeEs] at hc
    have hb1 := sizeE_bd x
    have hb2 := sizeEs_bd (e.a.drop (k + 1))
    have hsub := ih (szE x) (by omega) (by omega) x (Nat.le_refl _)
    rw [encE_eq] at hsub
    have hw2 : IntKind.i64.wrap (n + sizeE x) = n + sizeE x := wrap_small (by omega) (by omega)
    refine TS.of [] fun Q hQ => ?_
    simp only [go_sem, Nat.reduceEqDiff, Nat.reduceBEq, Int.reduceToNat, Int.reduceLT, Int.reduceLE, Int.reduceEq, Nat.reduceLeDiff, Nat.reduceLT, Nat.reduceMul, Nat.reduceAdd, String.reduceEq, i1, i3, i4, encE_eq, hm, hlt, hat, hlt5]
    refine cal_eq hsub ?_
    simp only [go_sem, Nat.reduceEqDiff, Nat.reduceBEq, Int.reduceToNat, Int.reduceLT, Int.reduceLE, Int.reduceEq, Nat.reduceLeDiff, Nat.reduceLT, Nat.reduceMul, Nat.reduceAdd, String.reduceEq, i1, i3, i4, hw, hw2]
    refine hQ .normal _ ?_; clear hQ Q
    refine ⟨_, _, (k + 1, n + sizeE x), DropW.refl _, ?_, ⟨hlt, by dsimp only; omega, by dsimp only; omega⟩, by dsimp only; omega⟩
    simp [upd_apply, i1, IV.np, npE]
  · refine TS.of [] fun Q hQ => ?_
    simp only [go_sem, Nat.reduceEqDiff, Nat.reduceBEq, Int.reduceToNat, Int.reduceLT, Int.reduceLE, Int.reduceEq, Nat.reduceLeDiff, Nat.reduceLT, Nat.reduceMul, Nat.reduceAdd, String.reduceEq, i1, i3, i4, encE_eq, hm, hlt]
    refine hQ (.exit 0) _ ?_; clear hQ Q
    rw [List.drop_eq_nil_of_le (by omega)] at hc
    simp only [sizeEs] at hc
    obtain rfl : n = 1 + sizeEs e.a := by omega
    refine TS.of [] fun Q hQ => ?_
    simp only [go_sem, Nat.reduceEqDiff, Nat.reduceBEq, Int.reduceToNat, Int.reduceLT, Int.reduceLE, Int.reduceEq, Nat.reduceLeDiff, Nat.reduceLT, Nat.reduceMul, Nat.reduceAdd, String.reduceEq, i3]
    refine hQ .ret _ ?_; exact post_ret _ _ _ rfl rfl (DropW.refl _) ⟨by rw [sizeE_eq]; rfl, rfl⟩
mutual
def stepT : Stmt → Int
  | .mk k _ x n b e _ =>
    let k1 := 1 + sizeEs x
    let k2 := if k = 6 then IntKind.i64.wrap (k1 + (if stepTs b 0 < stepTs e 0 then stepTs e 0 else stepTs b 0)) else k1
    if k = 7 ∨ k = 8 then IntKind.i64.wrap (k2 + IntKind.i64.wrap (n * IntKind.i64.wrap (1 + stepTs b 0))) else k2
def stepTs : List Stmt → Int → Int
  | [], n => n
  | s :: l, n => stepTs l (if 1073741824 < IntKind.i64.wrap (n + stepT s) then 1073741824 else IntKind.i64.wrap (n + stepT s))
end
theorem stepT_eq (s : Stmt) : stepT s = (if s.k = 7 ∨ s.k = 8 then IntKind.i64.wrap ((if s.k = 6 then IntKind.i64.wrap (1 + sizeEs s.x + (if stepTs s.b 0 < stepTs s.e 0 then stepTs s.e 0 else stepTs s.b 0)) else 1 + sizeEs s.x) + IntKind.i64.wrap (s.n * IntKind.i64.wrap (1 + stepTs s.b 0))) else (if s.k = 6 then IntKind.i64.wrap (1 + sizeEs s.x + (if stepTs s.b 0 < stepTs s.e 0 then stepTs s.e 0 else stepTs s.b 0)) else 1 + sizeEs s.x)) := by
  cases s; rw [stepT]; rfl
set_option maxRecDepth 100000 in
set_option maxHeartbeats 4000000 in
theorem steps_sim (m : Mem) : ∀ (N : Nat), N < 900000 → ∀ (l : List Stmt), szt l ≤ N → ∀ m : Mem, Sim 49 [slT l] m (fun r m' => r = ii (stepTs l 0) ∧ m' = m) := by
  intro N
  induction N using Nat.strongRecOn with
  | ind N ih =>
  intro hB l hN m
  have hll := szt_len l
  refine Sim.ofS 74 [.tmp 2] Try.func49 rfl rfl rfl (by simp) fun wr => ?_
  simp only [go_sem, Nat.reduceEqDiff, Nat.reduceBEq, Int.reduceToNat, Int.reduceLT, Int.reduceLE, Int.reduceEq, Nat.reduceLeDiff, Nat.reduceLT, Nat.reduceMul, Nat.reduceAdd, String.reduceEq]
  refine TS.seq (TS.of [] fun Q hQ => ?_)
  simp only [go_sem, Nat.reduceEqDiff, Nat.reduceBEq, Int.reduceToNat, Int.reduceLT, Int.reduceLE, Int.reduceEq, Nat.reduceLeDiff, Nat.reduceLT, Nat.reduceMul, Nat.reduceAdd, String.reduceEq]
  refine hQ .normal _ ?_; clear hQ Q
  refine TS.seq (TS.of [] fun Q hQ => ?_)
  simp only [go_sem, Nat.reduceEqDiff, Nat.reduceBEq, Int.reduceToNat, Int.reduceLT, Int.reduceLE, Int.reduceEq, Nat.reduceLeDiff, Nat.reduceLT, Nat.reduceMul, Nat.reduceAdd, String.reduceEq]
  refine hQ .normal _ ?_; clear hQ Q
  refine TS.seq (TS.seq (TS.of [] fun Q hQ => ?_))
  simp only [go_sem, Nat.reduceEqDiff, Nat.reduceBEq, Int.reduceToNat, Int.reduceLT, Int.reduceLE, Int.reduceEq, Nat.reduceLeDiff, Nat.reduceLT, Nat.reduceMul, Nat.reduceAdd, String.reduceEq]
  refine hQ .normal _ ?_; clear hQ Q
  refine TS.block (TS.loop (α := Nat × Int) (fun x => [(0, slT l), (3, ii x.2), (4, ii x.1)]) (fun _ => m) (fun x => x.1 ≤ l.length ∧ stepTs (l.drop x.1) x.2 = stepTs l 0) (fun x => l.length - x.1) (0, 0) (by simp) ⟨by simp [Has, upd_apply, argsT], rfl, by simp⟩ ?_)
  rintro ⟨k, n⟩ st hH hm ⟨hk, hc⟩
  dsimp only at hH hm hk hc
  simp only [Has, List.mem_cons, List.not_mem_nil, or_false, forall_eq_or_imp, forall_eq] at hH; obtain ⟨i0, i3, i4⟩ := hH
  by_cases hlt : k < l.length
  · obtain ⟨x, hx⟩ : ∃ x, l[k]? = some x := ⟨_, List.getElem?_eq_getElem hlt⟩
    have hdr : l.drop k = x :: l.drop (k + 1) := by rw [List.drop_eq_getElem_cons hlt]; congr 1; exact Option.some.inj ((List.getElem?_eq_getElem hlt).symm.trans hx)
    have hat := encTs_at hx
    have hlt7 : k * 7 < (encTs l).length := by rw [encTs_length]; omega
    have hw := wrap_succ hlt (by omega)
    have hszx := szT_at hx
    have hxsz := szT_eq x
    have hxl := szs_len x.x
    have hbd := sizeEs_bd x.x
    rw [hdr, stepTs] at hc
    have hst := stepT_eq x
    refine TS.seq (TS.of [] fun Q hQ => ?_)
    simp only [go_sem, Nat.reduceEqDiff, Nat.reduceBEq, Int.reduceToNat, Int.reduceLT, Int.reduceLE, Int.reduceEq, Nat.reduceLeDiff, Nat.reduceLT, Nat.reduceMul, Nat.reduceAdd, String.reduceEq, i0, i3, i4, hm, hlt]
    refine hQ .normal _ ?_; clear hQ Q
    refine TS.seq (TS.mono (Q := fun e1 s => e1 = .normal ∧ (s.t 0 = slT l ∧ s.t 3 = ii (if 1073741824 < IntKind.i64.wrap (n + stepT x) then 1073741824 else IntKind.i64.wrap (n + stepT x)) ∧ s.t 4 = ii k) ∧ s.m = ⟨m.objs ++ [.cells (encT x)], m.rows⟩) ?_ ?_)
    · refine TS.block (TS.seq (TS.of [] fun Q hQ => ?_))
      simp only [go_sem, Nat.reduceEqDiff, Nat.reduceBEq, Int.reduceToNat, Int.reduceLT, Int.reduceLE, Int.reduceEq, Nat.reduceLeDiff, Nat.reduceLT, Nat.reduceMul, Nat.reduceAdd, String.reduceEq, i0, i3, i4, hlt, hat, hlt7]
      refine hQ .normal _ ?_; clear hQ Q
      refine TS.seq (TS.of [] fun Q hQ => ?_)
      simp only [go_sem, Nat.reduceEqDiff, Nat.reduceBEq, Int.reduceToNat, Int.reduceLT, Int.reduceLE, Int.reduceEq, Nat.reduceLeDiff, Nat.reduceLT, Nat.reduceMul, Nat.reduceAdd, String.reduceEq]
      refine hQ .normal _ ?_; clear hQ Q
      refine TS.seq (TS.mono (Q := fun e1 s => e1 = .normal ∧ (s.t 0 = slT l ∧ s.t 3 = ii n ∧ s.t 4 = ii k ∧ s.t 5 = .ptr m.objs.length 0 ∧ s.t 6 = ii (1 + sizeEs x.x)) ∧ s.m = ⟨m.objs ++ [.cells (encT x)], m.rows⟩) ?_ ?_)
      · refine TS.seq (TS.of [] fun Q hQ => ?_)
        simp only [go_sem, Nat.reduceEqDiff, Nat.reduceBEq, Int.reduceToNat, Int.reduceLT, Int.reduceLE, Int.reduceEq, Nat.reduceLeDiff, Nat.reduceLT, Nat.reduceMul, Nat.reduceAdd, String.reduceEq]
        refine hQ .normal _ ?_; clear hQ Q
        refine TS.block (TS.loop (α := Nat × Int) (fun y => [(0, slT l), (3, ii n), (4, ii k), (5, .ptr m.objs.length 0), (6, ii y.2), (7, ii y.1)]) (fun _ => ⟨m.objs ++ [.cells (encT x)], m.rows⟩) (fun y => y.1 ≤ x.x.length ∧ 0 ≤ y.2 ∧ y.2 + sizeEs (x.x.drop y.1) = 1 + sizeEs x.x) (fun y => x.x.length - y.1) (0, 1) (by simp) ⟨by simp [Has, upd_apply, i0, i3, i4], by rw [encT_eq], by simp⟩ ?_)
        rintro ⟨j, q⟩ s2 hH hm2 ⟨hj, hq0, hq⟩
        dsimp only at hH hm2 hj hq0 hq
        simp only [Has, List.mem_cons, List.not_mem_nil, or_false, forall_eq_or_imp, forall_eq] at hH; obtain ⟨j0, j3, j4, j5, j6, j7⟩ := hH
        by_cases hjl : j < x.x.length
        · obtain ⟨y, hy⟩ : ∃ y, x.x[j]? = some y := ⟨_, List.getElem?_eq_getElem hjl⟩
          have hdy : x.x.drop j = y :: x.x.drop (j + 1) := by rw [List.drop_eq_getElem_cons hjl]; congr 1; exact Option.some.inj ((List.getElem?_eq_getElem hjl).symm.trans hy)
          have hay := encEs_at hy
          have hly : j * 5 < (encEs x.x).length := by rw [encEs_length]; omega
          have hwj := wrap_succ hjl (by omega)
          have hszy := szE_at hy
          rw [hdy, sizeEs] at hq
          have hb1 := sizeE_bd y
          have hb2 := sizeEs_bd (x.x.drop (j + 1))
          have hsub := fun m => size_sim m (szE y) (by omega) y (Nat.le_refl _)
          rw [encE_eq] at hsub
          have hw2 : IntKind.i64.wrap (q + sizeE y) = q + sizeE y := wrap_small (by omega) (by omega)
          refine TS.of [] fun Q hQ => ?_
          simp only [go_sem, Nat.reduceEqDiff, Nat.reduceBEq, Int.reduceToNat, Int.reduceLT, Int.reduceLE, Int.reduceEq, Nat.reduceLeDiff, Nat.reduceLT, Nat.reduceMul, Nat.reduceAdd, String.reduceEq, j0, j3, j4, j5, j6, j7, encT_eq, hm2, hjl, hay, hly]
          refine cal_eq (hsub _) ?_
          simp only [go_sem, Nat.reduceEqDiff, Nat.reduceBEq, Int.reduceToNat, Int.reduceLT, Int.reduceLE, Int.reduceEq, Nat.reduceLeDiff, Nat.reduceLT, Nat.reduceMul, Nat.reduceAdd, String.reduceEq, j0, j3, j4, j5, j6, j7, hwj, hw2]
          refine hQ .normal _ ?_; clear hQ Q
          refine ⟨_, _, (j + 1, q + sizeE y), by rw [encT_eq]; exact DropW.refl _, ?_, ⟨hjl, by dsimp only; omega, by dsimp only; omega⟩, by dsimp only; omega⟩
          simp [upd_apply, j0, j3, j4, j5, IV.np, np_sh, npTs]
        · refine TS.of [] fun Q hQ => ?_
          simp only [go_sem, Nat.reduceEqDiff, Nat.reduceBEq, Int.reduceToNat, Int.reduceLT, Int.reduceLE, Int.reduceEq, Nat.reduceLeDiff, Nat.reduceLT, Nat.reduceMul, Nat.reduceAdd, String.reduceEq, j0, j3, j4, j5, j6, j7, encT_eq, hm2, hjl]
          refine hQ (.exit 2) _ ?_; clear hQ Q
          rw [List.drop_eq_nil_of_le (by omega)] at hq
          simp only [sizeEs] at hq
          exact ⟨rfl, by simp [upd_apply, j0, j3, j4, j5, j6]; omega, by rw [encT_eq]⟩
      rintro e1 s1 ⟨rfl, ⟨i0, i3, i4, i5, i6⟩, hm1⟩
      have hb := ih (szt x.b) (by omega) (by omega) x.b (Nat.le_refl _)
      have he := ih (szt x.e) (by omega) (by omega) x.e (Nat.le_refl _)
      generalize stepTs x.b 0 = sb at hb hst
      generalize stepTs x.e 0 = se at he hst
      generalize sizeEs x.x = z at hst i6 hbd
      by_cases k6 : x.k = 6
      · have k7 : ¬ x.k = 7 := by omega
        have k8 : ¬ x.k = 8 := by omega
        rw [if_neg (by omega), if_pos k6] at hst
        by_cases hlts : sb < se
        · rw [if_pos hlts] at hst
          rw [hst]
          by_cases hcap : 1073741824 < IntKind.i64.wrap (n + IntKind.i64.wrap (1 + z + se))
          · rw [if_pos hcap]
            refine TS.of [] fun Q hQ => ?_
            simp only [go_sem, Nat.reduceEqDiff, Nat.reduceBEq, Int.reduceToNat, Int.reduceLT, Int.reduceLE, Int.reduceEq, Nat.reduceLeDiff, Nat.reduceLT, Nat.reduceMul, Nat.reduceAdd, String.reduceEq, i0, i3, i4, i5, i6, hm1, encT_eq, eq_true k6, eq_false k7, eq_false k8, hlts, hcap]
            refine cal_eq (hb _) ?_
            simp only [go_sem, Nat.reduceEqDiff, Nat.reduceBEq, Int.reduceToNat, Int.reduceLT, Int.reduceLE, Int.reduceEq, Nat.reduceLeDiff, Nat.reduceLT, Nat.reduceMul, Nat.reduceAdd, String.reduceEq, i0, i3, i4, i5, i6, encT_eq, eq_true k6, eq_false k7, eq_false k8, hlts, hcap]
            refine cal_eq (he _) ?_
            simp only [go_sem, Nat.reduceEqDiff, Nat.reduceBEq, Int.reduceToNat, Int.reduceLT, Int.reduceLE, Int.reduceEq, Nat.reduceLeDiff, Nat.reduceLT, Nat.reduceMul, Nat.reduceAdd, String.reduceEq, i0, i3, i4, i5, i6, encT_eq, eq_true k6, eq_false k7, eq_false k8, hlts, hcap]
            refine hQ .normal _ ?_; clear hQ Q
            exact ⟨rfl, by simp [upd_apply, i0, i4], by first | rfl | rw [encT_eq]⟩
          · rw [if_neg hcap]
            refine TS.of [] fun Q hQ => ?_
            simp only [go_sem, Nat.reduceEqDiff, Nat.reduceBEq, Int.reduceToNat, Int.reduceLT, Int.reduceLE, Int.reduceEq, Nat.reduceLeDiff, Nat.reduceLT, Nat.reduceMul, Nat.reduceAdd, String.reduceEq, i0, i3, i4, i5, i6, hm1, encT_eq, eq_true k6, eq_false k7, eq_false k8, hlts, hcap]
            refine cal_eq (hb _) ?_
            simp only [go_sem, Nat.reduceEqDiff, Nat.reduceBEq, Int.reduceToNat, Int.reduceLT, Int.reduceLE, Int.reduceEq, Nat.reduceLeDiff, Nat.reduceLT, Nat.reduceMul, Nat.reduceAdd, String.reduceEq, i0, i3, i4, i5, i6, encT_eq, eq_true k6, eq_false k7, eq_false k8, hlts, hcap]
            refine cal_eq (he _) ?_
            simp only [go_sem, Nat.reduceEqDiff, Nat.reduceBEq, Int.reduceToNat, Int.reduceLT, Int.reduceLE, Int.reduceEq, Nat.reduceLeDiff, Nat.reduceLT, Nat.reduceMul, Nat.reduceAdd, String.reduceEq, i0, i3, i4, i5, i6, encT_eq, eq_true k6, eq_false k7, eq_false k8, hlts, hcap]
            refine hQ .normal _ ?_; clear hQ Q
            exact ⟨rfl, by simp [upd_apply, i0, i4], by first | rfl | rw [encT_eq]⟩
        · rw [if_neg hlts] at hst
          rw [hst]
          by_cases hcap : 1073741824 < IntKind.i64.wrap (n + IntKind.i64.wrap (1 + z + sb))
          · rw [if_pos hcap]
            refine TS.of [] fun Q hQ => ?_
            simp only [go_sem, Nat.reduceEqDiff, Nat.reduceBEq, Int.reduceToNat, Int.reduceLT, Int.reduceLE, Int.reduceEq, Nat.reduceLeDiff, Nat.reduceLT, Nat.reduceMul, Nat.reduceAdd, String.reduceEq, i0, i3, i4, i5, i6, hm1, encT_eq, eq_true k6, eq_false k7, eq_false k8, hlts, hcap]
            refine cal_eq (hb _) ?_
            simp only [go_sem, Nat.reduceEqDiff, Nat.reduceBEq, Int.reduceToNat, Int.reduceLT, Int.reduceLE, Int.reduceEq, Nat.reduceLeDiff, Nat.reduceLT, Nat.reduceMul, Nat.reduceAdd, String.reduceEq, i0, i3, i4, i5, i6, encT_eq, eq_true k6, eq_false k7, eq_false k8, hlts, hcap]
            refine cal_eq (he _) ?_
            simp only [go_sem, Nat.reduceEqDiff, Nat.reduceBEq, Int.reduceToNat, Int.reduceLT, Int.reduceLE, Int.reduceEq, Nat.reduceLeDiff, Nat.reduceLT, Nat.reduceMul, Nat.reduceAdd, String.reduceEq, i0, i3, i4, i5, i6, encT_eq, eq_true k6, eq_false k7, eq_false k8, hlts, hcap]
            refine hQ .normal _ ?_; clear hQ Q
            exact ⟨rfl, by simp [upd_apply, i0, i4], by first | rfl | rw [encT_eq]⟩
          · rw [if_neg hcap]
            refine TS.of [] fun Q hQ => ?_
            simp only [go_sem, Nat.reduceEqDiff, Nat.reduceBEq, Int.reduceToNat, Int.reduceLT, Int.reduceLE, Int.reduceEq, Nat.reduceLeDiff, Nat.reduceLT, Nat.reduceMul, Nat.reduceAdd, String.reduceEq, i0, i3, i4, i5, i6, hm1, encT_eq, eq_true k6, eq_false k7, eq_false k8, hlts, hcap]
            refine cal_eq (hb _) ?_
            simp only [go_sem, Nat.reduceEqDiff, Nat.reduceBEq, Int.reduceToNat, Int.reduceLT, Int.reduceLE, Int.reduceEq, Nat.reduceLeDiff, Nat.reduceLT, Nat.reduceMul, Nat.reduceAdd, String.reduceEq, i0, i3, i4, i5, i6, encT_eq, eq_true k6, eq_false k7, eq_false k8, hlts, hcap]
            refine cal_eq (he _) ?_
            simp only [go_sem, Nat.reduceEqDiff, Nat.reduceBEq, Int.reduceToNat, Int.reduceLT, Int.reduceLE, Int.reduceEq, Nat.reduceLeDiff, Nat.reduceLT, Nat.reduceMul, Nat.reduceAdd, String.reduceEq, i0, i3, i4, i5, i6, encT_eq, eq_true k6, eq_false k7, eq_false k8, hlts, hcap]
            refine hQ .normal _ ?_; clear hQ Q
            exact ⟨rfl, by simp [upd_apply, i0, i4], by first | rfl | rw [encT_eq]⟩
      by_cases k7 : x.k = 7
      · rw [if_pos (.inl k7), if_neg k6] at hst
        rw [hst]
        by_cases hcap : 1073741824 < IntKind.i64.wrap (n + IntKind.i64.wrap (1 + z + IntKind.i64.wrap (x.n * IntKind.i64.wrap (1 + sb))))
        · rw [if_pos hcap]
          refine TS.of [] fun Q hQ => ?_
          simp only [go_sem, Nat.reduceEqDiff, Nat.reduceBEq, Int.reduceToNat, Int.reduceLT, Int.reduceLE, Int.reduceEq, Nat.reduceLeDiff, Nat.reduceLT, Nat.reduceMul, Nat.reduceAdd, String.reduceEq, i0, i3, i4, i5, i6, hm1, encT_eq, eq_false k6, eq_true k7, hcap]
          refine drn_of ⟨[], [], []⟩ [0, 0, 2, 0, 8, 24, 56, 126, 255, 511] (by kernel_rfl) ?_
          simp only [go_sem, Nat.reduceEqDiff, Nat.reduceBEq, Int.reduceToNat, Int.reduceLT, Int.reduceLE, Int.reduceEq, Nat.reduceLeDiff, Nat.reduceLT, Nat.reduceMul, Nat.reduceAdd, String.reduceEq, i0, i3, i4, i5, i6, encT_eq]
          refine cald_eq (hb _) ?_
          simp only [go_sem, Nat.reduceEqDiff, Nat.reduceBEq, Int.reduceToNat, Int.reduceLT, Int.reduceLE, Int.reduceEq, Nat.reduceLeDiff, Nat.reduceLT, Nat.reduceMul, Nat.reduceAdd, String.reduceEq, i0, i3, i4, i5, i6, encT_eq, eq_false k6, eq_true k7, hcap]
          refine hQ .normal _ ?_; clear hQ Q
          exact ⟨rfl, by simp [upd_apply, i0, i4], by first | rfl | rw [encT_eq]⟩
        · rw [if_neg hcap]
          refine TS.of [] fun Q hQ => ?_
          simp only [go_sem, Nat.reduceEqDiff, Nat.reduceBEq, Int.reduceToNat, Int.reduceLT, Int.reduceLE, Int.reduceEq, Nat.reduceLeDiff, Nat.reduceLT, Nat.reduceMul, Nat.reduceAdd, String.reduceEq, i0, i3, i4, i5, i6, hm1, encT_eq, eq_false k6, eq_true k7, hcap]
          refine drn_of ⟨[], [], []⟩ [0, 0, 2, 0, 8, 24, 56, 126, 255, 511] (by kernel_rfl) ?_
          simp only [go_sem, Nat.reduceEqDiff, Nat.reduceBEq, Int.reduceToNat, Int.reduceLT, Int.reduceLE, Int.reduceEq, Nat.reduceLeDiff, Nat.reduceLT, Nat.reduceMul, Nat.reduceAdd, String.reduceEq, i0, i3, i4, i5, i6, encT_eq]
          refine cald_eq (hb _) ?_
          simp only [go_sem, Nat.reduceEqDiff, Nat.reduceBEq, Int.reduceToNat, Int.reduceLT, Int.reduceLE, Int.reduceEq, Nat.reduceLeDiff, Nat.reduceLT, Nat.reduceMul, Nat.reduceAdd, String.reduceEq, i0, i3, i4, i5, i6, encT_eq, eq_false k6, eq_true k7, hcap]
          refine hQ .normal _ ?_; clear hQ Q
          exact ⟨rfl, by simp [upd_apply, i0, i4], by first | rfl | rw [encT_eq]⟩
      by_cases k8 : x.k = 8
      · rw [if_pos (.inr k8), if_neg k6] at hst
        rw [hst]
        by_cases hcap : 1073741824 < IntKind.i64.wrap (n + IntKind.i64.wrap (1 + z + IntKind.i64.wrap (x.n * IntKind.i64.wrap (1 + sb))))
        · rw [if_pos hcap]
          refine TS.of [] fun Q hQ => ?_
          simp only [go_sem, Nat.reduceEqDiff, Nat.reduceBEq, Int.reduceToNat, Int.reduceLT, Int.reduceLE, Int.reduceEq, Nat.reduceLeDiff, Nat.reduceLT, Nat.reduceMul, Nat.reduceAdd, String.reduceEq, i0, i3, i4, i5, i6, hm1, encT_eq, eq_false k6, eq_false k7, eq_true k8, hcap]
          refine drn_of ⟨[], [], []⟩ [0, 0, 2, 0, 8, 24, 56, 126, 255, 511] (by kernel_rfl) ?_
          simp only [go_sem, Nat.reduceEqDiff, Nat.reduceBEq, Int.reduceToNat, Int.reduceLT, Int.reduceLE, Int.reduceEq, Nat.reduceLeDiff, Nat.reduceLT, Nat.reduceMul, Nat.reduceAdd, String.reduceEq, i0, i3, i4, i5, i6, encT_eq]
          refine cald_eq (hb _) ?_
          simp only [go_sem, Nat.reduceEqDiff, Nat.reduceBEq, Int.reduceToNat, Int.reduceLT, Int.reduceLE, Int.reduceEq, Nat.reduceLeDiff, Nat.reduceLT, Nat.reduceMul, Nat.reduceAdd, String.reduceEq, i0, i3, i4, i5, i6, encT_eq, eq_false k6, eq_false k7, eq_true k8, hcap]
          refine hQ .normal _ ?_; clear hQ Q
          exact ⟨rfl, by simp [upd_apply, i0, i4], by first | rfl | rw [encT_eq]⟩
        · rw [if_neg hcap]
          refine TS.of [] fun Q hQ => ?_
          simp only [go_sem, Nat.reduceEqDiff, Nat.reduceBEq, Int.reduceToNat, Int.reduceLT, Int.reduceLE, Int.reduceEq, Nat.reduceLeDiff, Nat.reduceLT, Nat.reduceMul, Nat.reduceAdd, String.reduceEq, i0, i3, i4, i5, i6, hm1, encT_eq, eq_false k6, eq_false k7, eq_true k8, hcap]
          refine drn_of ⟨[], [], []⟩ [0, 0, 2, 0, 8, 24, 56, 126, 255, 511] (by kernel_rfl) ?_
          simp only [go_sem, Nat.reduceEqDiff, Nat.reduceBEq, Int.reduceToNat, Int.reduceLT, Int.reduceLE, Int.reduceEq, Nat.reduceLeDiff, Nat.reduceLT, Nat.reduceMul, Nat.reduceAdd, String.reduceEq, i0, i3, i4, i5, i6, encT_eq]
          refine cald_eq (hb _) ?_
          simp only [go_sem, Nat.reduceEqDiff, Nat.reduceBEq, Int.reduceToNat, Int.reduceLT, Int.reduceLE, Int.reduceEq, Nat.reduceLeDiff, Nat.reduceLT, Nat.reduceMul, Nat.reduceAdd, String.reduceEq, i0, i3, i4, i5, i6, encT_eq, eq_false k6, eq_false k7, eq_true k8, hcap]
          refine hQ .normal _ ?_; clear hQ Q
          exact ⟨rfl, by simp [upd_apply, i0, i4], by first | rfl | rw [encT_eq]⟩
      rw [if_neg (by omega), if_neg k6] at hst
      rw [hst]
      by_cases hcap : 1073741824 < IntKind.i64.wrap (n + (1 + z))
      · rw [if_pos hcap]
        refine TS.of [] fun Q hQ => ?_
        simp only [go_sem, Nat.reduceEqDiff, Nat.reduceBEq, Int.reduceToNat, Int.reduceLT, Int.reduceLE, Int.reduceEq, Nat.reduceLeDiff, Nat.reduceLT, Nat.reduceMul, Nat.reduceAdd, String.reduceEq, i0, i3, i4, i5, i6, hm1, encT_eq, eq_false k6, eq_false k7, eq_false k8, hcap]
        refine hQ .normal _ ?_; clear hQ Q
        exact ⟨rfl, by simp [upd_apply, i0, i4], by first | rfl | rw [encT_eq]⟩
      · rw [if_neg hcap]
        refine TS.of [] fun Q hQ => ?_
        simp only [go_sem, Nat.reduceEqDiff, Nat.reduceBEq, Int.reduceToNat, Int.reduceLT, Int.reduceLE, Int.reduceEq, Nat.reduceLeDiff, Nat.reduceLT, Nat.reduceMul, Nat.reduceAdd, String.reduceEq, i0, i3, i4, i5, i6, hm1, encT_eq, eq_false k6, eq_false k7, eq_false k8, hcap]
        refine hQ .normal _ ?_; clear hQ Q
        exact ⟨rfl, by simp [upd_apply, i0, i4], by first | rfl | rw [encT_eq]⟩
    · rintro e1 s1 ⟨rfl, ⟨i0, i3, i4⟩, hm1⟩
      refine TS.of [] fun Q hQ => ?_
      simp only [go_sem, Nat.reduceEqDiff, Nat.reduceBEq, Int.reduceToNat, Int.reduceLT, Int.reduceLE, Int.reduceEq, Nat.reduceLeDiff, Nat.reduceLT, Nat.reduceMul, Nat.reduceAdd, String.reduceEq, i0, i3, i4, hm1, hw]
      refine hQ .normal _ ?_; clear hQ Q
      refine ⟨m.objs.length, m.rows.length, (k + 1, if 1073741824 < IntKind.i64.wrap (n + stepT x) then 1073741824 else IntKind.i64.wrap (n + stepT x)), DropW.tail0 [.cells (encT x)] rfl, ?_, ⟨hlt, hc⟩, by dsimp only; omega⟩
      simp [upd_apply, i0, i3, IV.np, np_sh, npTs]
  · refine TS.of [] fun Q hQ => ?_
    simp only [go_sem, Nat.reduceEqDiff, Nat.reduceBEq, Int.reduceToNat, Int.reduceLT, Int.reduceLE, Int.reduceEq, Nat.reduceLeDiff, Nat.reduceLT, Nat.reduceMul, Nat.reduceAdd, String.reduceEq, i0, i3, i4, hm, hlt]
    refine hQ (.exit 0) _ ?_; clear hQ Q
    rw [List.drop_eq_nil_of_le (by omega), stepTs] at hc
    subst hc
    refine TS.of [] fun Q hQ => ?_
    simp only [go_sem, Nat.reduceEqDiff, Nat.reduceBEq, Int.reduceToNat, Int.reduceLT, Int.reduceLE, Int.reduceEq, Nat.reduceLeDiff, Nat.reduceLT, Nat.reduceMul, Nat.reduceAdd, String.reduceEq, i3]
    refine hQ .ret _ ?_; exact post_ret _ _ _ rfl rfl (DropW.refl _) ⟨rfl, rfl⟩
end Go.Proofs.Ytphjldhdnmoolaa.A
/- The reference's Cells. -/
namespace Go.Proofs.Ytphjldhdnmoolaa.A
open Go
mutual
def cellsE : Expr → Bool
  | .mk k _ _ a _ => (k == 3) || cells a
def cells : List Expr → Bool
  | [] => false
  | e :: l => cellsE e || cells l
end
theorem cells_take : ∀ (l : List Expr) (k : Nat) (e : Expr), l[k]? = some e → cells (l.take (k + 1)) = (cells (l.take k) || ((e.k == 3) || cells e.a))
  | [], k, e, h => by simp at h
  | x :: l, 0, e, h => by simp at h; subst h; cases x; simp only [List.take_succ_cons, List.take_zero, cells, cellsE, Expr.k, Expr.a, Bool.or_false, Bool.false_or]
  | x :: l, k + 1, e, h => by
    simp at h
    simp only [List.take_succ_cons, cells, cells_take l k e h, Bool.or_assoc]
theorem cells_at : ∀ (l : List Expr) (k : Nat) (e : Expr), l[k]? = some e → ((e.k == 3) || cells e.a) = true → cells l = true
  | [], k, e, h, _ => by simp at h
  | x :: l, 0, e, h, g => by simp at h; subst h; cases x; simp [cells, cellsE, Expr.k, Expr.a] at *; exact .inl g
  | x :: l, k + 1, e, h, g => by simp at h; simp [cells, cells_at l k e h g]
set_option maxRecDepth 100000 in
set_option maxHeartbeats 1000000 in
theorem cells_sim (m : Mem) : ∀ (N : Nat), N < 900000 → ∀ (l : List Expr), szs l ≤ N → Sim 36 [slE l] m (fun r m' => r = bb (cells l) ∧ m' = m) := by
  intro N
  induction N using Nat.strongRecOn with
  | ind N ih =>
  intro hB l hN
  have hll := szs_len l
  refine Sim.ofS 24 [.tmp 2] Try.func36 rfl rfl rfl (by simp) fun wr => ?_
  simp only [go_sem, Nat.reduceLT, Nat.reduceEqDiff]
  refine TS.seq (TS.of [] fun Q hQ => ?_)
  simp only [go_sem, Nat.reduceLT, Nat.reduceEqDiff]
  refine hQ .normal _ ?_
  refine (TS.seq (TS.seq (TS.of [] fun Q hQ => ?_)))
  simp only [go_sem, Nat.reduceLT, Nat.reduceEqDiff]
  refine hQ .normal _ ?_
  refine (TS.block (TS.loop (α := Nat) (fun k => [(0, slE l), (3, ii k)]) (fun _ => m) (fun k => k ≤ l.length ∧ cells (l.take k) = false) (fun k => l.length - k) 0 (by simp) ⟨by simp [Has, upd_apply, argsT], rfl, by simp [cells]⟩ ?_))
  rintro k s hH hm ⟨hk, hc⟩
  simp only [Has, List.mem_cons, List.not_mem_nil, or_false, forall_eq_or_imp, forall_eq] at hH
  obtain ⟨h0, h3⟩ := hH
  by_cases hlt : k < l.length
  · obtain ⟨e, he⟩ : ∃ e, l[k]? = some e := ⟨l[k], List.getElem?_eq_getElem hlt⟩
    have hat := encEs_at he
    have hlt5 : k * 5 < (encEs l).length := by rw [encEs_length]; omega
    have hw := wrap_succ hlt (by omega)
    have hsz : szs e.a < N := by have := szs_at he; omega
    by_cases h3' : e.k = 3
    · refine TS.of [] fun Q hQ => ?_
      simp only [go_sem, Nat.reduceLT, Nat.reduceEqDiff, h0, h3, hm, hlt, hat, h3', hlt5, hw]
      refine hQ .ret _ ?_; exact (post_ret _ _ _ rfl rfl (DropW.refl m) ⟨by rw [cells_at l k e he (by simp [h3'])]; rfl, rfl⟩)
    · refine TS.of [] fun Q hQ => ?_
      simp only [go_sem, Nat.reduceLT, Nat.reduceEqDiff, h0, h3, hm, hlt, hat, h3', hlt5, hw]
      refine cal_eq (m0 := m) (r0 := bb (cells e.a)) ?_ ?_
      · exact ih _ hsz (by omega) e.a (Nat.le_refl _)
      have hct := cells_take l k e he
      rw [hc, show (e.k == 3) = false by simp [h3'], Bool.false_or, Bool.false_or] at hct
      cases hce : cells e.a with
      | true =>
        simp only [go_sem, Nat.reduceLT, Nat.reduceEqDiff, h0, h3, hm, hlt, hat, h3', hlt5, hw]
        refine hQ .ret _ ?_; exact (post_ret _ _ _ rfl rfl (DropW.refl m) ⟨by rw [cells_at l k e he (by simp [hce])]; rfl, rfl⟩)
      | false =>
        simp only [go_sem, Nat.reduceLT, Nat.reduceEqDiff, h0, h3, hm, hlt, hat, h3', hlt5, hw]
        refine hQ .normal _ ?_
        refine ⟨_, _, k + 1, DropW.refl m, ?_, ⟨hlt, by rw [hct, hce]⟩, by omega⟩
        simp [upd_apply, h0, IV.np, SK.np, npEs]
  · refine TS.of [] fun Q hQ => ?_
    simp only [go_sem, Nat.reduceLT, Nat.reduceEqDiff, h0, h3, hm, hlt]
    refine hQ (.exit 0) _ ?_
    refine TS.of [] fun Q hQ => ?_
    simp only [go_sem, Nat.reduceLT, Nat.reduceEqDiff]
    refine hQ .ret _ ?_
    refine (post_ret _ _ _ rfl rfl (DropW.refl m) ⟨?_, rfl⟩)
    rw [List.take_of_length_le (by omega)] at hc
    rw [hc]; rfl
end Go.Proofs.Ytphjldhdnmoolaa.A
