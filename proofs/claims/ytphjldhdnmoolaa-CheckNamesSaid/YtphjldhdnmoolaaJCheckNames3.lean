/- Joined: R1, E0, E1, E2, R2, R3, R4, E3, R5, E4, F0, P0, R6, P1, R7 -/
import Derived.Test.YtphjldhdnmoolaaJCheckNames2
import Derived.Laws.Externs
import Derived.MapKept
import Derived.WalkKit
import Derived.Maps.Own
import Derived.RowKit
set_option linter.unusedVariables false
set_option linter.unusedSimpArgs false
/- The walks of some functions over the abstract machine. -/
namespace Go.Proofs.Ytphjldhdnmoolaa.A
open Go
/-! ref08: has, reads -/
mutual
def hasT (a b : Int) : Stmt → Bool
  | .mk k _ _ _ x y _ => (decide (a ≤ k) && decide (k ≤ b)) || (hasTs a b x || hasTs a b y)
def hasTs (a b : Int) : List Stmt → Bool
  | [] => false
  | s :: l => hasT a b s || hasTs a b l
end
mutual
def readsT : Stmt → Bool
  | .mk _ _ x _ b e _ => cells x || (readsTs b || readsTs e)
def readsTs : List Stmt → Bool
  | [] => false
  | s :: l => readsT s || readsTs l
end
theorem hasT_eq (a b : Int) (s : Stmt) : hasT a b s = ((decide (a ≤ s.k) && decide (s.k ≤ b)) || (hasTs a b s.b || hasTs a b s.e)) := by cases s; rfl
theorem readsT_eq (s : Stmt) : readsT s = (cells s.x || (readsTs s.b || readsTs s.e)) := by cases s; rfl
set_option maxRecDepth 100000 in
set_option maxHeartbeats 4000000 in
theorem hasS_sim (a b : Int) : ∀ (N : Nat), N < 900000 → ∀ (l : List Stmt), szt l ≤ N → ∀ m : Mem, Sim 34 [slT l, ii a, ii b] m (fun r m' => r = bb (hasTs a b l) ∧ m' = m) := by
  intro N
  induction N using Nat.strongRecOn with
  | ind N ih =>
  intro hB l hN m
  have hll := szt_len l
  refine Sim.ofS 50 [.tmp 6] Try.func34 rfl rfl rfl (by simp) fun wr => ?_
  simp only [go_sem, Nat.reduceEqDiff, Nat.reduceBEq, Int.reduceToNat, Int.reduceLT, Int.reduceLE, Int.reduceEq, Nat.reduceLeDiff, Nat.reduceLT, Nat.reduceMul, Nat.reduceAdd, String.reduceEq]
  refine TS.seq (TS.of [] fun Q hQ => ?_)
  simp only [go_sem, Nat.reduceEqDiff, Nat.reduceBEq, Int.reduceToNat, Int.reduceLT, Int.reduceLE, Int.reduceEq, Nat.reduceLeDiff, Nat.reduceLT, Nat.reduceMul, Nat.reduceAdd, String.reduceEq]
  refine hQ .normal _ ?_; clear hQ Q
  refine TS.seq (TS.seq (TS.of [] fun Q hQ => ?_))
  simp only [go_sem, Nat.reduceEqDiff, Nat.reduceBEq, Int.reduceToNat, Int.reduceLT, Int.reduceLE, Int.reduceEq, Nat.reduceLeDiff, Nat.reduceLT, Nat.reduceMul, Nat.reduceAdd, String.reduceEq]
  refine hQ .normal _ ?_; clear hQ Q
  refine TS.block (TS.loop (α := Nat) (fun k => [(0, slT l), (1, ii a), (2, ii b), (7, ii k)]) (fun _ => m) (fun k => k ≤ l.length ∧ hasTs a b (l.drop k) = hasTs a b l) (fun k => l.length - k) 0 (by simp) ⟨by simp [Has, upd_apply, argsT], rfl, by simp⟩ ?_)
  rintro k st hH hm ⟨hk, hc⟩
  simp only [Has, List.mem_cons, List.not_mem_nil, or_false, forall_eq_or_imp, forall_eq] at hH; obtain ⟨i0, i1, i2, i7⟩ := hH
  by_cases hlt : k < l.length
  · obtain ⟨x, hx⟩ : ∃ x, l[k]? = some x := ⟨_, List.getElem?_eq_getElem hlt⟩
    have hdr : l.drop k = x :: l.drop (k + 1) := by rw [List.drop_eq_getElem_cons hlt]; congr 1; exact Option.some.inj ((List.getElem?_eq_getElem hlt).symm.trans hx)
    have hat := encTs_at hx
    have hlt7 : k * 7 < (encTs l).length := by rw [encTs_length]; omega
    have hw := wrap_succ hlt (by omega)
    have hszx := szT_at hx
    have hxsz := szT_eq x
    rw [hdr] at hc
    have hb := ih (szt x.b) (by omega) (by omega) x.b (Nat.le_refl _)
    have he := ih (szt x.e) (by omega) (by omega) x.e (Nat.le_refl _)
    rw [hasTs, hasT_eq] at hc
    by_cases c1 : a ≤ x.k
    · by_cases c2 : x.k ≤ b
      · refine TS.of [] fun Q hQ => ?_
        simp only [go_sem, Nat.reduceEqDiff, Nat.reduceBEq, Int.reduceToNat, Int.reduceLT, Int.reduceLE, Int.reduceEq, Nat.reduceLeDiff, Nat.reduceLT, Nat.reduceMul, Nat.reduceAdd, String.reduceEq, i0, i1, i2, i7, hm, hlt, hat, hlt7, eq_true c1, eq_true c2]
        refine hQ .ret _ ?_; exact post_ret _ _ _ rfl rfl (DropW.refl _) ⟨congrArg (fun z => IV.v (Value.bool z)) (hc.symm.trans (by simp [c1, c2])).symm, rfl⟩
      · cases hsb : hasTs a b x.b
        · rw [hsb] at hb hc
          cases hse : hasTs a b x.e
          · rw [hse] at he hc
            refine TS.of [] fun Q hQ => ?_
            simp only [go_sem, Nat.reduceEqDiff, Nat.reduceBEq, Int.reduceToNat, Int.reduceLT, Int.reduceLE, Int.reduceEq, Nat.reduceLeDiff, Nat.reduceLT, Nat.reduceMul, Nat.reduceAdd, String.reduceEq, i0, i1, i2, i7, hm, hlt, hat, hlt7, eq_true c1, eq_false c2]
            refine cal_eq (hb _) ?_
            simp only [go_sem, Nat.reduceEqDiff, Nat.reduceBEq, Int.reduceToNat, Int.reduceLT, Int.reduceLE, Int.reduceEq, Nat.reduceLeDiff, Nat.reduceLT, Nat.reduceMul, Nat.reduceAdd, String.reduceEq, i0, i1, i2, i7, hat, hlt7, hlt, hw, eq_true c1, eq_false c2]
            refine cal_eq (he _) ?_
            simp only [go_sem, Nat.reduceEqDiff, Nat.reduceBEq, Int.reduceToNat, Int.reduceLT, Int.reduceLE, Int.reduceEq, Nat.reduceLeDiff, Nat.reduceLT, Nat.reduceMul, Nat.reduceAdd, String.reduceEq, i0, i1, i2, i7, hat, hlt7, hlt, hw, eq_true c1, eq_false c2]
            refine hQ .normal _ ?_; clear hQ Q
            refine ⟨_, _, k + 1, DropW.refl _, ?_, ⟨hlt, by rw [← hc]; simp [c1, c2]⟩, by omega⟩
            simp [upd_apply, i0, i1, i2, IV.np, np_sh, npTs]
          · rw [hse] at he hc
            refine TS.of [] fun Q hQ => ?_
            simp only [go_sem, Nat.reduceEqDiff, Nat.reduceBEq, Int.reduceToNat, Int.reduceLT, Int.reduceLE, Int.reduceEq, Nat.reduceLeDiff, Nat.reduceLT, Nat.reduceMul, Nat.reduceAdd, String.reduceEq, i0, i1, i2, i7, hm, hlt, hat, hlt7, eq_true c1, eq_false c2]
            refine cal_eq (hb _) ?_
            simp only [go_sem, Nat.reduceEqDiff, Nat.reduceBEq, Int.reduceToNat, Int.reduceLT, Int.reduceLE, Int.reduceEq, Nat.reduceLeDiff, Nat.reduceLT, Nat.reduceMul, Nat.reduceAdd, String.reduceEq, i0, i1, i2, i7, hat, hlt7, hlt, hw, eq_true c1, eq_false c2]
            refine cal_eq (he _) ?_
            simp only [go_sem, Nat.reduceEqDiff, Nat.reduceBEq, Int.reduceToNat, Int.reduceLT, Int.reduceLE, Int.reduceEq, Nat.reduceLeDiff, Nat.reduceLT, Nat.reduceMul, Nat.reduceAdd, String.reduceEq, i0, i1, i2, i7, hat, hlt7, hlt, hw, eq_true c1, eq_false c2]
            refine hQ .ret _ ?_; exact post_ret _ _ _ rfl rfl (DropW.refl _) ⟨congrArg (fun z => IV.v (Value.bool z)) (hc.symm.trans (by simp [c1, c2])).symm, rfl⟩
        · rw [hsb] at hb hc
          refine TS.of [] fun Q hQ => ?_
          simp only [go_sem, Nat.reduceEqDiff, Nat.reduceBEq, Int.reduceToNat, Int.reduceLT, Int.reduceLE, Int.reduceEq, Nat.reduceLeDiff, Nat.reduceLT, Nat.reduceMul, Nat.reduceAdd, String.reduceEq, i0, i1, i2, i7, hm, hlt, hat, hlt7, eq_true c1, eq_false c2]
          refine cal_eq (hb _) ?_
          simp only [go_sem, Nat.reduceEqDiff, Nat.reduceBEq, Int.reduceToNat, Int.reduceLT, Int.reduceLE, Int.reduceEq, Nat.reduceLeDiff, Nat.reduceLT, Nat.reduceMul, Nat.reduceAdd, String.reduceEq, i0, i1, i2, i7, hat, hlt7, hlt, hw, eq_true c1, eq_false c2]
          refine hQ .ret _ ?_; exact post_ret _ _ _ rfl rfl (DropW.refl _) ⟨congrArg (fun z => IV.v (Value.bool z)) (hc.symm.trans (by simp [c1, c2])).symm, rfl⟩
    · cases hsb : hasTs a b x.b
      · rw [hsb] at hb hc
        cases hse : hasTs a b x.e
        · rw [hse] at he hc
          refine TS.of [] fun Q hQ => ?_
          simp only [go_sem, Nat.reduceEqDiff, Nat.reduceBEq, Int.reduceToNat, Int.reduceLT, Int.reduceLE, Int.reduceEq, Nat.reduceLeDiff, Nat.reduceLT, Nat.reduceMul, Nat.reduceAdd, String.reduceEq, i0, i1, i2, i7, hm, hlt, hat, hlt7, eq_false c1]
          refine cal_eq (hb _) ?_
          simp only [go_sem, Nat.reduceEqDiff, Nat.reduceBEq, Int.reduceToNat, Int.reduceLT, Int.reduceLE, Int.reduceEq, Nat.reduceLeDiff, Nat.reduceLT, Nat.reduceMul, Nat.reduceAdd, String.reduceEq, i0, i1, i2, i7, hat, hlt7, hlt, hw, eq_false c1]
          refine cal_eq (he _) ?_
          simp only [go_sem, Nat.reduceEqDiff, Nat.reduceBEq, Int.reduceToNat, Int.reduceLT, Int.reduceLE, Int.reduceEq, Nat.reduceLeDiff, Nat.reduceLT, Nat.reduceMul, Nat.reduceAdd, String.reduceEq, i0, i1, i2, i7, hat, hlt7, hlt, hw, eq_false c1]
          refine hQ .normal _ ?_; clear hQ Q
          refine ⟨_, _, k + 1, DropW.refl _, ?_, ⟨hlt, by rw [← hc]; simp [c1]⟩, by omega⟩
          simp [upd_apply, i0, i1, i2, IV.np, np_sh, npTs]
        · rw [hse] at he hc
          refine TS.of [] fun Q hQ => ?_
          simp only [go_sem, Nat.reduceEqDiff, Nat.reduceBEq, Int.reduceToNat, Int.reduceLT, Int.reduceLE, Int.reduceEq, Nat.reduceLeDiff, Nat.reduceLT, Nat.reduceMul, Nat.reduceAdd, String.reduceEq, i0, i1, i2, i7, hm, hlt, hat, hlt7, eq_false c1]
          refine cal_eq (hb _) ?_
          simp only [go_sem, Nat.reduceEqDiff, Nat.reduceBEq, Int.reduceToNat, Int.reduceLT, Int.reduceLE, Int.reduceEq, Nat.reduceLeDiff, Nat.reduceLT, Nat.reduceMul, Nat.reduceAdd, String.reduceEq, i0, i1, i2, i7, hat, hlt7, hlt, hw, eq_false c1]
          refine cal_eq (he _) ?_
          simp only [go_sem, Nat.reduceEqDiff, Nat.reduceBEq, Int.reduceToNat, Int.reduceLT, Int.reduceLE, Int.reduceEq, Nat.reduceLeDiff, Nat.reduceLT, Nat.reduceMul, Nat.reduceAdd, String.reduceEq, i0, i1, i2, i7, hat, hlt7, hlt, hw, eq_false c1]
          refine hQ .ret _ ?_; exact post_ret _ _ _ rfl rfl (DropW.refl _) ⟨congrArg (fun z => IV.v (Value.bool z)) (hc.symm.trans (by simp [c1])).symm, rfl⟩
      · rw [hsb] at hb hc
        refine TS.of [] fun Q hQ => ?_
        simp only [go_sem, Nat.reduceEqDiff, Nat.reduceBEq, Int.reduceToNat, Int.reduceLT, Int.reduceLE, Int.reduceEq, Nat.reduceLeDiff, Nat.reduceLT, Nat.reduceMul, Nat.reduceAdd, String.reduceEq, i0, i1, i2, i7, hm, hlt, hat, hlt7, eq_false c1]
        refine cal_eq (hb _) ?_
        simp only [go_sem, Nat.reduceEqDiff, Nat.reduceBEq, Int.reduceToNat, Int.reduceLT, Int.reduceLE, Int.reduceEq, Nat.reduceLeDiff, Nat.reduceLT, Nat.reduceMul, Nat.reduceAdd, String.reduceEq, i0, i1, i2, i7, hat, hlt7, hlt, hw, eq_false c1]
        refine hQ .ret _ ?_; exact post_ret _ _ _ rfl rfl (DropW.refl _) ⟨congrArg (fun z => IV.v (Value.bool z)) (hc.symm.trans (by simp [c1])).symm, rfl⟩
  · refine TS.of [] fun Q hQ => ?_
    simp only [go_sem, Nat.reduceEqDiff, Nat.reduceBEq, Int.reduceToNat, Int.reduceLT, Int.reduceLE, Int.reduceEq, Nat.reduceLeDiff, Nat.reduceLT, Nat.reduceMul, Nat.reduceAdd, String.reduceEq, i0, i1, i2, i7, hm, hlt]
    refine hQ (.exit 0) _ ?_; clear hQ Q
    rw [List.drop_eq_nil_of_le (by omega), hasTs] at hc
    refine TS.of [] fun Q hQ => ?_
    simp only [go_sem, Nat.reduceEqDiff, Nat.reduceBEq, Int.reduceToNat, Int.reduceLT, Int.reduceLE, Int.reduceEq, Nat.reduceLeDiff, Nat.reduceLT, Nat.reduceMul, Nat.reduceAdd, String.reduceEq]
    refine hQ .ret _ ?_; exact post_ret _ _ _ rfl rfl (DropW.refl _) ⟨by rw [← hc]; rfl, rfl⟩
set_option maxRecDepth 100000 in
set_option maxHeartbeats 4000000 in
theorem reads_sim : ∀ (N : Nat), N < 900000 → ∀ (l : List Stmt), szt l ≤ N → ∀ m : Mem, Sim 35 [slT l] m (fun r m' => r = bb (readsTs l) ∧ m' = m) := by
  intro N
  induction N using Nat.strongRecOn with
  | ind N ih =>
  intro hB l hN m
  have hll := szt_len l
  refine Sim.ofS 32 [.tmp 2] Try.func35 rfl rfl rfl (by simp) fun wr => ?_
  simp only [go_sem, Nat.reduceEqDiff, Nat.reduceBEq, Int.reduceToNat, Int.reduceLT, Int.reduceLE, Int.reduceEq, Nat.reduceLeDiff, Nat.reduceLT, Nat.reduceMul, Nat.reduceAdd, String.reduceEq]
  refine TS.seq (TS.of [] fun Q hQ => ?_)
  simp only [go_sem, Nat.reduceEqDiff, Nat.reduceBEq, Int.reduceToNat, Int.reduceLT, Int.reduceLE, Int.reduceEq, Nat.reduceLeDiff, Nat.reduceLT, Nat.reduceMul, Nat.reduceAdd, String.reduceEq]
  refine hQ .normal _ ?_; clear hQ Q
  refine TS.seq (TS.seq (TS.of [] fun Q hQ => ?_))
  simp only [go_sem, Nat.reduceEqDiff, Nat.reduceBEq, Int.reduceToNat, Int.reduceLT, Int.reduceLE, Int.reduceEq, Nat.reduceLeDiff, Nat.reduceLT, Nat.reduceMul, Nat.reduceAdd, String.reduceEq]
  refine hQ .normal _ ?_; clear hQ Q
  refine TS.block (TS.loop (α := Nat) (fun k => [(0, slT l), (3, ii k)]) (fun _ => m) (fun k => k ≤ l.length ∧ readsTs (l.drop k) = readsTs l) (fun k => l.length - k) 0 (by simp) ⟨by simp [Has, upd_apply, argsT], rfl, by simp⟩ ?_)
  rintro k st hH hm ⟨hk, hc⟩
  simp only [Has, List.mem_cons, List.not_mem_nil, or_false, forall_eq_or_imp, forall_eq] at hH; obtain ⟨i0, i3⟩ := hH
  by_cases hlt : k < l.length
  · obtain ⟨x, hx⟩ : ∃ x, l[k]? = some x := ⟨_, List.getElem?_eq_getElem hlt⟩
    have hdr : l.drop k = x :: l.drop (k + 1) := by rw [List.drop_eq_getElem_cons hlt]; congr 1; exact Option.some.inj ((List.getElem?_eq_getElem hlt).symm.trans hx)
    have hat := encTs_at hx
    have hlt7 : k * 7 < (encTs l).length := by rw [encTs_length]; omega
    have hw := wrap_succ hlt (by omega)
    have hszx := szT_at hx
    have hxsz := szT_eq x
    rw [hdr] at hc
    have hb := ih (szt x.b) (by omega) (by omega) x.b (Nat.le_refl _)
    have he := ih (szt x.e) (by omega) (by omega) x.e (Nat.le_refl _)
    rw [readsTs, readsT_eq] at hc
    have hcl := fun m => cells_sim m (szs x.x) (by omega) x.x (Nat.le_refl _)
    cases hsc : cells x.x
    · rw [hsc] at hcl hc
      cases hsb : readsTs x.b
      · rw [hsb] at hb hc
        cases hse : readsTs x.e
        · rw [hse] at he hc
          refine TS.of [] fun Q hQ => ?_
          simp only [go_sem, Nat.reduceEqDiff, Nat.reduceBEq, Int.reduceToNat, Int.reduceLT, Int.reduceLE, Int.reduceEq, Nat.reduceLeDiff, Nat.reduceLT, Nat.reduceMul, Nat.reduceAdd, String.reduceEq, i0, i3, hm, hlt, hat, hlt7]
          refine cal_eq (hcl _) ?_
          simp only [go_sem, Nat.reduceEqDiff, Nat.reduceBEq, Int.reduceToNat, Int.reduceLT, Int.reduceLE, Int.reduceEq, Nat.reduceLeDiff, Nat.reduceLT, Nat.reduceMul, Nat.reduceAdd, String.reduceEq, i0, i3, hat, hlt7, hlt, hw]
          refine cal_eq (hb _) ?_
          simp only [go_sem, Nat.reduceEqDiff, Nat.reduceBEq, Int.reduceToNat, Int.reduceLT, Int.reduceLE, Int.reduceEq, Nat.reduceLeDiff, Nat.reduceLT, Nat.reduceMul, Nat.reduceAdd, String.reduceEq, i0, i3, hat, hlt7, hlt, hw]
          refine cal_eq (he _) ?_
          simp only [go_sem, Nat.reduceEqDiff, Nat.reduceBEq, Int.reduceToNat, Int.reduceLT, Int.reduceLE, Int.reduceEq, Nat.reduceLeDiff, Nat.reduceLT, Nat.reduceMul, Nat.reduceAdd, String.reduceEq, i0, i3, hat, hlt7, hlt, hw]
          refine hQ .normal _ ?_; clear hQ Q
          refine ⟨_, _, k + 1, DropW.refl _, ?_, ⟨hlt, by rw [← hc]; simp [true_and]⟩, by omega⟩
          simp [upd_apply, i0, IV.np, np_sh, npTs]
        · rw [hse] at he hc
          refine TS.of [] fun Q hQ => ?_
          simp only [go_sem, Nat.reduceEqDiff, Nat.reduceBEq, Int.reduceToNat, Int.reduceLT, Int.reduceLE, Int.reduceEq, Nat.reduceLeDiff, Nat.reduceLT, Nat.reduceMul, Nat.reduceAdd, String.reduceEq, i0, i3, hm, hlt, hat, hlt7]
          refine cal_eq (hcl _) ?_
          simp only [go_sem, Nat.reduceEqDiff, Nat.reduceBEq, Int.reduceToNat, Int.reduceLT, Int.reduceLE, Int.reduceEq, Nat.reduceLeDiff, Nat.reduceLT, Nat.reduceMul, Nat.reduceAdd, String.reduceEq, i0, i3, hat, hlt7, hlt, hw]
          refine cal_eq (hb _) ?_
          simp only [go_sem, Nat.reduceEqDiff, Nat.reduceBEq, Int.reduceToNat, Int.reduceLT, Int.reduceLE, Int.reduceEq, Nat.reduceLeDiff, Nat.reduceLT, Nat.reduceMul, Nat.reduceAdd, String.reduceEq, i0, i3, hat, hlt7, hlt, hw]
          refine cal_eq (he _) ?_
          simp only [go_sem, Nat.reduceEqDiff, Nat.reduceBEq, Int.reduceToNat, Int.reduceLT, Int.reduceLE, Int.reduceEq, Nat.reduceLeDiff, Nat.reduceLT, Nat.reduceMul, Nat.reduceAdd, String.reduceEq, i0, i3, hat, hlt7, hlt, hw]
          refine hQ .ret _ ?_; exact post_ret _ _ _ rfl rfl (DropW.refl _) ⟨congrArg (fun z => IV.v (Value.bool z)) (hc.symm.trans (by simp [true_and])).symm, rfl⟩
      · rw [hsb] at hb hc
        refine TS.of [] fun Q hQ => ?_
        simp only [go_sem, Nat.reduceEqDiff, Nat.reduceBEq, Int.reduceToNat, Int.reduceLT, Int.reduceLE, Int.reduceEq, Nat.reduceLeDiff, Nat.reduceLT, Nat.reduceMul, Nat.reduceAdd, String.reduceEq, i0, i3, hm, hlt, hat, hlt7]
        refine cal_eq (hcl _) ?_
        simp only [go_sem, Nat.reduceEqDiff, Nat.reduceBEq, Int.reduceToNat, Int.reduceLT, Int.reduceLE, Int.reduceEq, Nat.reduceLeDiff, Nat.reduceLT, Nat.reduceMul, Nat.reduceAdd, String.reduceEq, i0, i3, hat, hlt7, hlt, hw]
        refine cal_eq (hb _) ?_
        simp only [go_sem, Nat.reduceEqDiff, Nat.reduceBEq, Int.reduceToNat, Int.reduceLT, Int.reduceLE, Int.reduceEq, Nat.reduceLeDiff, Nat.reduceLT, Nat.reduceMul, Nat.reduceAdd, String.reduceEq, i0, i3, hat, hlt7, hlt, hw]
        refine hQ .ret _ ?_; exact post_ret _ _ _ rfl rfl (DropW.refl _) ⟨congrArg (fun z => IV.v (Value.bool z)) (hc.symm.trans (by simp [true_and])).symm, rfl⟩
    · rw [hsc] at hcl hc
      refine TS.of [] fun Q hQ => ?_
      simp only [go_sem, Nat.reduceEqDiff, Nat.reduceBEq, Int.reduceToNat, Int.reduceLT, Int.reduceLE, Int.reduceEq, Nat.reduceLeDiff, Nat.reduceLT, Nat.reduceMul, Nat.reduceAdd, String.reduceEq, i0, i3, hm, hlt, hat, hlt7]
      refine cal_eq (hcl _) ?_
      simp only [go_sem, Nat.reduceEqDiff, Nat.reduceBEq, Int.reduceToNat, Int.reduceLT, Int.reduceLE, Int.reduceEq, Nat.reduceLeDiff, Nat.reduceLT, Nat.reduceMul, Nat.reduceAdd, String.reduceEq, i0, i3, hat, hlt7, hlt, hw]
      refine hQ .ret _ ?_; exact post_ret _ _ _ rfl rfl (DropW.refl _) ⟨congrArg (fun z => IV.v (Value.bool z)) (hc.symm.trans (by simp [true_and])).symm, rfl⟩
  · refine TS.of [] fun Q hQ => ?_
    simp only [go_sem, Nat.reduceEqDiff, Nat.reduceBEq, Int.reduceToNat, Int.reduceLT, Int.reduceLE, Int.reduceEq, Nat.reduceLeDiff, Nat.reduceLT, Nat.reduceMul, Nat.reduceAdd, String.reduceEq, i0, i3, hm, hlt]
    refine hQ (.exit 0) _ ?_; clear hQ Q
    rw [List.drop_eq_nil_of_le (by omega), readsTs] at hc
    refine TS.of [] fun Q hQ => ?_
    simp only [go_sem, Nat.reduceEqDiff, Nat.reduceBEq, Int.reduceToNat, Int.reduceLT, Int.reduceLE, Int.reduceEq, Nat.reduceLeDiff, Nat.reduceLT, Nat.reduceMul, Nat.reduceAdd, String.reduceEq]
    refine hQ .ret _ ?_; exact post_ret _ _ _ rfl rfl (DropW.refl _) ⟨by rw [← hc]; rfl, rfl⟩
end Go.Proofs.Ytphjldhdnmoolaa.A
/- maps.Clone at the program's own map type, and its contract over the abstract machine. -/
namespace Go.Proofs.Ytphjldhdnmoolaa.A
open Go Go.RowKit Go.Maps
theorem run_equalIn_map_nil (w : World) (d : Nat) (t k e : TypeId) (p : Option Nat) (h : Try.prog.underlying t = some (.map k e)) :
    (Op.equalIn (d + 1) t (.map p) (.map none)).run Try.prog w = .ok p.isNone w := by
  cases p <;> simp [Op.equalIn, run_underlying h]
theorem run_eql_map_nil (w : World) (t k e : TypeId) (p : Option Nat) (h : Try.prog.underlying t = some (.map k e)) :
    (binOp .eql t (.map p) (.map none)).run Try.prog w = .ok (.bool p.isNone) w := by
  simp only [binOp]
  simp [show Op.equal t (.map p) (.map none) = Op.equalIn (9999 + 1) t (.map p) (.map none) from rfl, run_equalIn_map_nil w 9999 t k e p h]
theorem run_typeAssert_map (w : World) (t xT k e : TypeId) (v : Value) (h : Try.prog.underlying t = some (.map k e)) : (Instr.typeAssert (.iface t v) xT t false).run Try.prog w = .ok v w := by
  simp [Instr.typeAssert, run_underlying h, go_sem, Result.andThen]
theorem run_maps_clone (w : World) {r : Nat} {es : Array MapEntry} {clock : Nat} (t : TypeId) (hb : w.heap[r]? = some (.map es clock)) :
    (Extern.MapsClone.clone #[.iface t (.map (some r))]).run Try.prog w = .ok (.iface t (.map (some w.heap.size))) (w.alloc (.map es clock)) := by
  have e : Extern.MapsClone.clone #[.iface t (.map (some r))] = (getObj r >>= fun o => match o with
      | .map entries clock => (newObj (.map entries clock) >>= fun n => pure (.iface t (.map (some n))))
      | _ => stuck "maps.clone: a map expected") := rfl
  rw [e]
  simp [MapKept.run_getObj_map hb, Result.andThen, go_sem]
set_option maxHeartbeats 4000000 in
set_option maxRecDepth 100000 in
theorem clone_calls (b : Nat) (es : Array MapEntry) (clock : Nat) (w : World) (hb : w.heap[b]? = some (.map es clock)) :
    Calls Try.prog 60 #[.map (some b)] w fun e w' => e = .returned (.map (some w.heap.size)) ∧ w' = w.alloc (.map es clock) := by
  obtain ⟨k, e, t108⟩ : ∃ k e, Try.prog.underlying 108 = some (.map k e) := ⟨_, _, Try.underlying108⟩
  have hq := fun w => run_eql_map_nil w 108 _ _ (some b) t108
  go_enter Try.func60, Try.ntmps60
  go_wp2
  rw [run_callFunc_extern Try.func83 (by kernel_rfl) (by kernel_rfl) (by kernel_rfl) (e := Extern.MapsClone.clone) (by kernel_rfl), run_maps_clone w 108 hb]
  simp only [Result.andThen]
  rw [Oper.upon_value]
  go_wp2
  rw [run_typeAssert_map _ 108 20 _ _ _ t108]
  simp only [Result.andThen]
  rw [Oper.upon_value]
  go_wp2
  go_ret
  exact ⟨rfl, rfl⟩
theorem clone_sim (m : Mem) (o : Nat) (es : Array MapEntry) (c : Nat) (ho : m.objs[o]? = some (.map es c)) : Sim 60 [.map o] m (fun r m' => r = .map m.objs.length ∧ m' = ⟨m.objs ++ [.map es c], m.rows⟩) := by
  intro κ w vs hi hl
  obtain ⟨v, vs', e1, hv, hvs⟩ := hl
  simp only [RelL] at hvs
  subst hvs
  obtain ⟨b, hb, rfl⟩ := hv
  have hvs : vs = #[.map (some b)] := by cases vs; simp_all
  subst hvs
  have hx : w.heap[b]? = some (.map es c) := hi.obj o b _ hb ho
  refine (clone_calls b es c w hx).mono ?_
  rintro e w' ⟨rfl, rfl⟩
  have hr : StRel 0 (wr0 κ w) κ ⟨fun _ => .any, m⟩ ⟨#[], []⟩ w := ⟨hi, rfl, rfl, fun _ => trivial⟩
  obtain ⟨h1, h2⟩ := hr.newObj (.map es c) (.map es c) (fun κ' _ => heap_alloc_new w _)
  refine ⟨_, _, .map m.objs.length, _, rfl, h2, h1.inv, ?_, rfl, rfl⟩
  refine ⟨w.heap.size, ?_, rfl⟩
  rw [← hi.len]; simp
end Go.Proofs.Ytphjldhdnmoolaa.A
/- The walks of some functions over the abstract machine. -/
namespace Go.Proofs.Ytphjldhdnmoolaa.A
open Go
/-! expressions' values, as plain functions -/
structure RS where
  lsn : Int
  cs : List Int
  kn : List Ent
  kc : Nat
abbrev w64 (n : Int) : Int := IntKind.i64.wrap n
def bit (b : Bool) : Int := if b then 1 else 0
def getC (cs : List Int) (i : Int) : Int := if i < 0 ∨ 60 ≤ i then 0 else cs.getD i.toNat 0
def operP (s : Bytes) (a b : Int) : Option Int :=
  if s = qAdd then some (w64 (a + b)) else if s = qSub then some (w64 (a - b)) else if s = qMul then some (w64 (a * b))
  else if s = qDiv then some (if b = 0 then 0 else w64 (a.tdiv b)) else if s = qRem then some (if b = 0 then 0 else a.tmod b)
  else if s = qLt then some (bit (decide (a < b))) else if s = qLe then some (bit (decide (a ≤ b))) else if s = qGt then some (bit (decide (b < a))) else if s = qGe then some (bit (decide (b ≤ a)))
  else if s = qEq then some (bit (decide (a = b))) else if s = qNe then some (bit (!decide (a = b)))
  else if s = qAnd then some (bit (!decide (a = 0) && !decide (b = 0))) else if s = qOr then some (bit (!decide (a = 0) || !decide (b = 0))) else none
def val1 (k n : Int) (s : Bytes) (A : List Int) (rs : RS) : Option Int :=
  if k = 1 ∧ A = [] then some n
  else if k = 2 ∧ A = [] then if s = qTrue ∨ s = qFalse then some (bit (decide (s = qTrue))) else getM s rs.kn
  else match k, A with
    | 3, [a] => some (getC rs.cs a)
    | 4, [a] => some (bit (decide (a = 0)))
    | 5, [a] => some (w64 (0 - a))
    | 6, [a, b] => operP s a b
    | _, _ => none
mutual
def valE : Expr → RS → Option Int
  | .mk k n s a _, rs => (valEs a rs).bind fun A => val1 k n s A rs
def valEs : List Expr → RS → Option (List Int)
  | [], _ => some []
  | e :: l, rs => (valE e rs).bind fun x => (valEs l rs).map fun y => x :: y
end
set_option maxRecDepth 100000 in
set_option maxHeartbeats 4000000 in
theorem bit_sim (m : Mem) (b : Bool) : Sim 84 [bb b] m (fun r m' => r = ii (bit b) ∧ m' = m) := by
  refine Sim.ofS 4 [.tmp 2] Try.func84 rfl rfl rfl (by simp) fun wr => ?_
  simp only [go_sem, Nat.reduceEqDiff, Nat.reduceBEq, Int.reduceToNat, Int.reduceLT, Int.reduceLE, Int.reduceEq, Nat.reduceLeDiff, Nat.reduceLT, Nat.reduceMul, Nat.reduceAdd, String.reduceEq]
  cases b
  all_goals refine TS.of [] fun Q hQ => ?_
  all_goals simp only [go_sem, Nat.reduceEqDiff, Nat.reduceBEq, Int.reduceToNat, Int.reduceLT, Int.reduceLE, Int.reduceEq, Nat.reduceLeDiff, Nat.reduceLT, Nat.reduceMul, Nat.reduceAdd, String.reduceEq]
  all_goals refine hQ .ret _ ?_; exact post_ret _ _ _ rfl rfl (DropW.refl _) ⟨rfl, rfl⟩
def operR (s : Bytes) (a b : Int) : IV := match operP s a b with
  | some n => .tup [ii n, bb true]
  | none => .tup [ii 0, bb false]
theorem oper_ok (s : Bytes) (a b n : Int) (h : operP s a b = some n) : operR s a b = .tup [ii n, bb true] := by unfold operR; rw [h]
theorem oper_no (s : Bytes) (a b : Int) (h : operP s a b = none) : operR s a b = .tup [ii 0, bb false] := by unfold operR; rw [h]
set_option maxRecDepth 100000 in
set_option maxHeartbeats 4000000 in
theorem operate_sim (m : Mem) (s : Bytes) (a b : Int) : Sim 86 [ss s, ii a, ii b] m (fun r m' => r = operR s a b ∧ m' = m) := by
  refine Sim.ofS 92 [.tmp 6, .tmp 7] Try.func86 rfl rfl rfl (by simp) fun wr => ?_
  simp only [go_sem, Nat.reduceEqDiff, Nat.reduceBEq, Int.reduceToNat, Int.reduceLT, Int.reduceLE, Int.reduceEq, Nat.reduceLeDiff, Nat.reduceLT, Nat.reduceMul, Nat.reduceAdd, String.reduceEq]
  by_cases e0 : s = qAdd
  · have d0 : decide (s = ({ data := #[43] } : Bytes)) = true := decide_eq_true e0
    have hv := oper_ok s a b (w64 (a + b)) (by unfold operP; rw [if_pos e0])
    rw [hv]
    refine TS.of [] fun Q hQ => ?_
    simp only [go_sem, Nat.reduceEqDiff, Nat.reduceBEq, Int.reduceToNat, Int.reduceLT, Int.reduceLE, Int.reduceEq, Nat.reduceLeDiff, Nat.reduceLT, Nat.reduceMul, Nat.reduceAdd, String.reduceEq, d0]
    refine hQ .ret _ ?_; exact post_ret _ _ _ rfl rfl (DropW.refl _) ⟨rfl, rfl⟩
  have d0 : decide (s = ({ data := #[43] } : Bytes)) = false := decide_eq_false e0
  by_cases e1 : s = qSub
  · have d1 : decide (s = ({ data := #[45] } : Bytes)) = true := decide_eq_true e1
    have hv := oper_ok s a b (w64 (a - b)) (by unfold operP; rw [if_neg e0, if_pos e1])
    rw [hv]
    refine TS.of [] fun Q hQ => ?_
    simp only [go_sem, Nat.reduceEqDiff, Nat.reduceBEq, Int.reduceToNat, Int.reduceLT, Int.reduceLE, Int.reduceEq, Nat.reduceLeDiff, Nat.reduceLT, Nat.reduceMul, Nat.reduceAdd, String.reduceEq, d0, d1]
    refine hQ .ret _ ?_; exact post_ret _ _ _ rfl rfl (DropW.refl _) ⟨rfl, rfl⟩
  have d1 : decide (s = ({ data := #[45] } : Bytes)) = false := decide_eq_false e1
  by_cases e2 : s = qMul
  · have d2 : decide (s = ({ data := #[42] } : Bytes)) = true := decide_eq_true e2
    have hv := oper_ok s a b (w64 (a * b)) (by unfold operP; rw [if_neg e0, if_neg e1, if_pos e2])
    rw [hv]
    refine TS.of [] fun Q hQ => ?_
    simp only [go_sem, Nat.reduceEqDiff, Nat.reduceBEq, Int.reduceToNat, Int.reduceLT, Int.reduceLE, Int.reduceEq, Nat.reduceLeDiff, Nat.reduceLT, Nat.reduceMul, Nat.reduceAdd, String.reduceEq, d0, d1, d2]
    refine hQ .ret _ ?_; exact post_ret _ _ _ rfl rfl (DropW.refl _) ⟨rfl, rfl⟩
  have d2 : decide (s = ({ data := #[42] } : Bytes)) = false := decide_eq_false e2
  by_cases e3 : s = qDiv
  · have d3 : decide (s = ({ data := #[47] } : Bytes)) = true := decide_eq_true e3
    have hv := oper_ok s a b (if b = 0 then 0 else w64 (a.tdiv b)) (by unfold operP; rw [if_neg e0, if_neg e1, if_neg e2, if_pos e3])
    rw [hv]
    by_cases hb : b = 0
    · refine TS.of [] fun Q hQ => ?_
      simp only [go_sem, Nat.reduceEqDiff, Nat.reduceBEq, Int.reduceToNat, Int.reduceLT, Int.reduceLE, Int.reduceEq, Nat.reduceLeDiff, Nat.reduceLT, Nat.reduceMul, Nat.reduceAdd, String.reduceEq, d0, d1, d2, d3, hb]
      refine hQ .ret _ ?_; exact post_ret _ _ _ rfl rfl (DropW.refl _) ⟨by rw [if_pos hb]; rfl, rfl⟩
    · refine TS.of [] fun Q hQ => ?_
      simp only [go_sem, Nat.reduceEqDiff, Nat.reduceBEq, Int.reduceToNat, Int.reduceLT, Int.reduceLE, Int.reduceEq, Nat.reduceLeDiff, Nat.reduceLT, Nat.reduceMul, Nat.reduceAdd, String.reduceEq, d0, d1, d2, d3, hb]
      refine hQ .ret _ ?_; exact post_ret _ _ _ rfl rfl (DropW.refl _) ⟨by rw [if_neg hb]; rfl, rfl⟩
  have d3 : decide (s = ({ data := #[47] } : Bytes)) = false := decide_eq_false e3
  by_cases e4 : s = qRem
  · have d4 : decide (s = ({ data := #[37] } : Bytes)) = true := decide_eq_true e4
    have hv := oper_ok s a b (if b = 0 then 0 else a.tmod b) (by unfold operP; rw [if_neg e0, if_neg e1, if_neg e2, if_neg e3, if_pos e4])
    rw [hv]
    by_cases hb : b = 0
    · refine TS.of [] fun Q hQ => ?_
      simp only [go_sem, Nat.reduceEqDiff, Nat.reduceBEq, Int.reduceToNat, Int.reduceLT, Int.reduceLE, Int.reduceEq, Nat.reduceLeDiff, Nat.reduceLT, Nat.reduceMul, Nat.reduceAdd, String.reduceEq, d0, d1, d2, d3, d4, hb]
      refine hQ .ret _ ?_; exact post_ret _ _ _ rfl rfl (DropW.refl _) ⟨by rw [if_pos hb]; rfl, rfl⟩
    · refine TS.of [] fun Q hQ => ?_
      simp only [go_sem, Nat.reduceEqDiff, Nat.reduceBEq, Int.reduceToNat, Int.reduceLT, Int.reduceLE, Int.reduceEq, Nat.reduceLeDiff, Nat.reduceLT, Nat.reduceMul, Nat.reduceAdd, String.reduceEq, d0, d1, d2, d3, d4, hb]
      refine hQ .ret _ ?_; exact post_ret _ _ _ rfl rfl (DropW.refl _) ⟨by rw [if_neg hb]; rfl, rfl⟩
  have d4 : decide (s = ({ data := #[37] } : Bytes)) = false := decide_eq_false e4
  by_cases e5 : s = qLt
  · have d5 : decide (s = ({ data := #[60] } : Bytes)) = true := decide_eq_true e5
    have hv := oper_ok s a b (bit (decide (a < b))) (by unfold operP; rw [if_neg e0, if_neg e1, if_neg e2, if_neg e3, if_neg e4, if_pos e5])
    rw [hv]
    refine TS.of [] fun Q hQ => ?_
    simp only [go_sem, Nat.reduceEqDiff, Nat.reduceBEq, Int.reduceToNat, Int.reduceLT, Int.reduceLE, Int.reduceEq, Nat.reduceLeDiff, Nat.reduceLT, Nat.reduceMul, Nat.reduceAdd, String.reduceEq, d0, d1, d2, d3, d4, d5]
    refine cal_eq (bit_sim _ _) ?_
    simp only [go_sem, Nat.reduceEqDiff, Nat.reduceBEq, Int.reduceToNat, Int.reduceLT, Int.reduceLE, Int.reduceEq, Nat.reduceLeDiff, Nat.reduceLT, Nat.reduceMul, Nat.reduceAdd, String.reduceEq]
    refine hQ .ret _ ?_; exact post_ret _ _ _ rfl rfl (DropW.refl _) ⟨rfl, rfl⟩
  have d5 : decide (s = ({ data := #[60] } : Bytes)) = false := decide_eq_false e5
  by_cases e6 : s = qLe
  · have d6 : decide (s = ({ data := #[60, 61] } : Bytes)) = true := decide_eq_true e6
    have hv := oper_ok s a b (bit (decide (a ≤ b))) (by unfold operP; rw [if_neg e0, if_neg e1, if_neg e2, if_neg e3, if_neg e4, if_neg e5, if_pos e6])
    rw [hv]
    refine TS.of [] fun Q hQ => ?_
    simp only [go_sem, Nat.reduceEqDiff, Nat.reduceBEq, Int.reduceToNat, Int.reduceLT, Int.reduceLE, Int.reduceEq, Nat.reduceLeDiff, Nat.reduceLT, Nat.reduceMul, Nat.reduceAdd, String.reduceEq, d0, d1, d2, d3, d4, d5, d6]
    refine cal_eq (bit_sim _ _) ?_
    simp only [go_sem, Nat.reduceEqDiff, Nat.reduceBEq, Int.reduceToNat, Int.reduceLT, Int.reduceLE, Int.reduceEq, Nat.reduceLeDiff, Nat.reduceLT, Nat.reduceMul, Nat.reduceAdd, String.reduceEq]
    refine hQ .ret _ ?_; exact post_ret _ _ _ rfl rfl (DropW.refl _) ⟨rfl, rfl⟩
  have d6 : decide (s = ({ data := #[60, 61] } : Bytes)) = false := decide_eq_false e6
  by_cases e7 : s = qGt
  · have d7 : decide (s = ({ data := #[62] } : Bytes)) = true := decide_eq_true e7
    have hv := oper_ok s a b (bit (decide (b < a))) (by unfold operP; rw [if_neg e0, if_neg e1, if_neg e2, if_neg e3, if_neg e4, if_neg e5, if_neg e6, if_pos e7])
    rw [hv]
    refine TS.of [] fun Q hQ => ?_
    simp only [go_sem, Nat.reduceEqDiff, Nat.reduceBEq, Int.reduceToNat, Int.reduceLT, Int.reduceLE, Int.reduceEq, Nat.reduceLeDiff, Nat.reduceLT, Nat.reduceMul, Nat.reduceAdd, String.reduceEq, d0, d1, d2, d3, d4, d5, d6, d7]
    refine cal_eq (bit_sim _ _) ?_
    simp only [go_sem, Nat.reduceEqDiff, Nat.reduceBEq, Int.reduceToNat, Int.reduceLT, Int.reduceLE, Int.reduceEq, Nat.reduceLeDiff, Nat.reduceLT, Nat.reduceMul, Nat.reduceAdd, String.reduceEq]
    refine hQ .ret _ ?_; exact post_ret _ _ _ rfl rfl (DropW.refl _) ⟨rfl, rfl⟩
  have d7 : decide (s = ({ data := #[62] } : Bytes)) = false := decide_eq_false e7
  by_cases e8 : s = qGe
  · have d8 : decide (s = ({ data := #[62, 61] } : Bytes)) = true := decide_eq_true e8
    have hv := oper_ok s a b (bit (decide (b ≤ a))) (by unfold operP; rw [if_neg e0, if_neg e1, if_neg e2, if_neg e3, if_neg e4, if_neg e5, if_neg e6, if_neg e7, if_pos e8])
    rw [hv]
    refine TS.of [] fun Q hQ => ?_
    simp only [go_sem, Nat.reduceEqDiff, Nat.reduceBEq, Int.reduceToNat, Int.reduceLT, Int.reduceLE, Int.reduceEq, Nat.reduceLeDiff, Nat.reduceLT, Nat.reduceMul, Nat.reduceAdd, String.reduceEq, d0, d1, d2, d3, d4, d5, d6, d7, d8]
    refine cal_eq (bit_sim _ _) ?_
    simp only [go_sem, Nat.reduceEqDiff, Nat.reduceBEq, Int.reduceToNat, Int.reduceLT, Int.reduceLE, Int.reduceEq, Nat.reduceLeDiff, Nat.reduceLT, Nat.reduceMul, Nat.reduceAdd, String.reduceEq]
    refine hQ .ret _ ?_; exact post_ret _ _ _ rfl rfl (DropW.refl _) ⟨rfl, rfl⟩
  have d8 : decide (s = ({ data := #[62, 61] } : Bytes)) = false := decide_eq_false e8
  by_cases e9 : s = qEq
  · have d9 : decide (s = ({ data := #[61, 61] } : Bytes)) = true := decide_eq_true e9
    have hv := oper_ok s a b (bit (decide (a = b))) (by unfold operP; rw [if_neg e0, if_neg e1, if_neg e2, if_neg e3, if_neg e4, if_neg e5, if_neg e6, if_neg e7, if_neg e8, if_pos e9])
    rw [hv]
    refine TS.of [] fun Q hQ => ?_
    simp only [go_sem, Nat.reduceEqDiff, Nat.reduceBEq, Int.reduceToNat, Int.reduceLT, Int.reduceLE, Int.reduceEq, Nat.reduceLeDiff, Nat.reduceLT, Nat.reduceMul, Nat.reduceAdd, String.reduceEq, d0, d1, d2, d3, d4, d5, d6, d7, d8, d9]
    refine cal_eq (bit_sim _ _) ?_
    simp only [go_sem, Nat.reduceEqDiff, Nat.reduceBEq, Int.reduceToNat, Int.reduceLT, Int.reduceLE, Int.reduceEq, Nat.reduceLeDiff, Nat.reduceLT, Nat.reduceMul, Nat.reduceAdd, String.reduceEq]
    refine hQ .ret _ ?_; exact post_ret _ _ _ rfl rfl (DropW.refl _) ⟨rfl, rfl⟩
  have d9 : decide (s = ({ data := #[61, 61] } : Bytes)) = false := decide_eq_false e9
  by_cases e10 : s = qNe
  · have d10 : decide (s = ({ data := #[33, 61] } : Bytes)) = true := decide_eq_true e10
    have hv := oper_ok s a b (bit (!decide (a = b))) (by unfold operP; rw [if_neg e0, if_neg e1, if_neg e2, if_neg e3, if_neg e4, if_neg e5, if_neg e6, if_neg e7, if_neg e8, if_neg e9, if_pos e10])
    rw [hv]
    refine TS.of [] fun Q hQ => ?_
    simp only [go_sem, Nat.reduceEqDiff, Nat.reduceBEq, Int.reduceToNat, Int.reduceLT, Int.reduceLE, Int.reduceEq, Nat.reduceLeDiff, Nat.reduceLT, Nat.reduceMul, Nat.reduceAdd, String.reduceEq, d0, d1, d2, d3, d4, d5, d6, d7, d8, d9, d10]
    refine cal_eq (bit_sim _ _) ?_
    simp only [go_sem, Nat.reduceEqDiff, Nat.reduceBEq, Int.reduceToNat, Int.reduceLT, Int.reduceLE, Int.reduceEq, Nat.reduceLeDiff, Nat.reduceLT, Nat.reduceMul, Nat.reduceAdd, String.reduceEq]
    refine hQ .ret _ ?_; exact post_ret _ _ _ rfl rfl (DropW.refl _) ⟨rfl, rfl⟩
  have d10 : decide (s = ({ data := #[33, 61] } : Bytes)) = false := decide_eq_false e10
  by_cases e11 : s = qAnd
  · have d11 : decide (s = ({ data := #[38, 38] } : Bytes)) = true := decide_eq_true e11
    have hv := oper_ok s a b (bit (!decide (a = 0) && !decide (b = 0))) (by unfold operP; rw [if_neg e0, if_neg e1, if_neg e2, if_neg e3, if_neg e4, if_neg e5, if_neg e6, if_neg e7, if_neg e8, if_neg e9, if_neg e10, if_pos e11])
    by_cases ha : a = 0
    · by_cases hb : b = 0
      · rw [hv, show (!decide (a = 0) && !decide (b = 0)) = false from by simp [ha, hb]]
        refine TS.of [] fun Q hQ => ?_
        simp only [go_sem, Nat.reduceEqDiff, Nat.reduceBEq, Int.reduceToNat, Int.reduceLT, Int.reduceLE, Int.reduceEq, Nat.reduceLeDiff, Nat.reduceLT, Nat.reduceMul, Nat.reduceAdd, String.reduceEq, d0, d1, d2, d3, d4, d5, d6, d7, d8, d9, d10, d11, ha, hb]
        refine cal_eq (bit_sim _ _) ?_
        simp only [go_sem, Nat.reduceEqDiff, Nat.reduceBEq, Int.reduceToNat, Int.reduceLT, Int.reduceLE, Int.reduceEq, Nat.reduceLeDiff, Nat.reduceLT, Nat.reduceMul, Nat.reduceAdd, String.reduceEq]
        refine hQ .ret _ ?_; exact post_ret _ _ _ rfl rfl (DropW.refl _) ⟨rfl, rfl⟩
      · rw [hv, show (!decide (a = 0) && !decide (b = 0)) = false from by simp [ha, hb]]
        refine TS.of [] fun Q hQ => ?_
        simp only [go_sem, Nat.reduceEqDiff, Nat.reduceBEq, Int.reduceToNat, Int.reduceLT, Int.reduceLE, Int.reduceEq, Nat.reduceLeDiff, Nat.reduceLT, Nat.reduceMul, Nat.reduceAdd, String.reduceEq, d0, d1, d2, d3, d4, d5, d6, d7, d8, d9, d10, d11, ha, hb]
        refine cal_eq (bit_sim _ _) ?_
        simp only [go_sem, Nat.reduceEqDiff, Nat.reduceBEq, Int.reduceToNat, Int.reduceLT, Int.reduceLE, Int.reduceEq, Nat.reduceLeDiff, Nat.reduceLT, Nat.reduceMul, Nat.reduceAdd, String.reduceEq]
        refine hQ .ret _ ?_; exact post_ret _ _ _ rfl rfl (DropW.refl _) ⟨rfl, rfl⟩
    · by_cases hb : b = 0
      · rw [hv, show (!decide (a = 0) && !decide (b = 0)) = false from by simp [ha, hb]]
        refine TS.of [] fun Q hQ => ?_
        simp only [go_sem, Nat.reduceEqDiff, Nat.reduceBEq, Int.reduceToNat, Int.reduceLT, Int.reduceLE, Int.reduceEq, Nat.reduceLeDiff, Nat.reduceLT, Nat.reduceMul, Nat.reduceAdd, String.reduceEq, d0, d1, d2, d3, d4, d5, d6, d7, d8, d9, d10, d11, ha, hb]
        refine cal_eq (bit_sim _ _) ?_
        simp only [go_sem, Nat.reduceEqDiff, Nat.reduceBEq, Int.reduceToNat, Int.reduceLT, Int.reduceLE, Int.reduceEq, Nat.reduceLeDiff, Nat.reduceLT, Nat.reduceMul, Nat.reduceAdd, String.reduceEq]
        refine hQ .ret _ ?_; exact post_ret _ _ _ rfl rfl (DropW.refl _) ⟨rfl, rfl⟩
      · rw [hv, show (!decide (a = 0) && !decide (b = 0)) = true from by simp [ha, hb]]
        refine TS.of [] fun Q hQ => ?_
        simp only [go_sem, Nat.reduceEqDiff, Nat.reduceBEq, Int.reduceToNat, Int.reduceLT, Int.reduceLE, Int.reduceEq, Nat.reduceLeDiff, Nat.reduceLT, Nat.reduceMul, Nat.reduceAdd, String.reduceEq, d0, d1, d2, d3, d4, d5, d6, d7, d8, d9, d10, d11, ha, hb]
        refine cal_eq (bit_sim _ _) ?_
        simp only [go_sem, Nat.reduceEqDiff, Nat.reduceBEq, Int.reduceToNat, Int.reduceLT, Int.reduceLE, Int.reduceEq, Nat.reduceLeDiff, Nat.reduceLT, Nat.reduceMul, Nat.reduceAdd, String.reduceEq]
        refine hQ .ret _ ?_; exact post_ret _ _ _ rfl rfl (DropW.refl _) ⟨rfl, rfl⟩
  have d11 : decide (s = ({ data := #[38, 38] } : Bytes)) = false := decide_eq_false e11
  by_cases e12 : s = qOr
  · have d12 : decide (s = ({ data := #[124, 124] } : Bytes)) = true := decide_eq_true e12
    have hv := oper_ok s a b (bit (!decide (a = 0) || !decide (b = 0))) (by unfold operP; rw [if_neg e0, if_neg e1, if_neg e2, if_neg e3, if_neg e4, if_neg e5, if_neg e6, if_neg e7, if_neg e8, if_neg e9, if_neg e10, if_neg e11, if_pos e12])
    by_cases ha : a = 0
    · by_cases hb : b = 0
      · rw [hv, show (!decide (a = 0) || !decide (b = 0)) = false from by simp [ha, hb]]
        refine TS.of [] fun Q hQ => ?_
        simp only [go_sem, Nat.reduceEqDiff, Nat.reduceBEq, Int.reduceToNat, Int.reduceLT, Int.reduceLE, Int.reduceEq, Nat.reduceLeDiff, Nat.reduceLT, Nat.reduceMul, Nat.reduceAdd, String.reduceEq, d0, d1, d2, d3, d4, d5, d6, d7, d8, d9, d10, d11, d12, ha, hb]
        refine cal_eq (bit_sim _ _) ?_
        simp only [go_sem, Nat.reduceEqDiff, Nat.reduceBEq, Int.reduceToNat, Int.reduceLT, Int.reduceLE, Int.reduceEq, Nat.reduceLeDiff, Nat.reduceLT, Nat.reduceMul, Nat.reduceAdd, String.reduceEq]
        refine hQ .ret _ ?_; exact post_ret _ _ _ rfl rfl (DropW.refl _) ⟨rfl, rfl⟩
      · rw [hv, show (!decide (a = 0) || !decide (b = 0)) = true from by simp [ha, hb]]
        refine TS.of [] fun Q hQ => ?_
        simp only [go_sem, Nat.reduceEqDiff, Nat.reduceBEq, Int.reduceToNat, Int.reduceLT, Int.reduceLE, Int.reduceEq, Nat.reduceLeDiff, Nat.reduceLT, Nat.reduceMul, Nat.reduceAdd, String.reduceEq, d0, d1, d2, d3, d4, d5, d6, d7, d8, d9, d10, d11, d12, ha, hb]
        refine cal_eq (bit_sim _ _) ?_
        simp only [go_sem, Nat.reduceEqDiff, Nat.reduceBEq, Int.reduceToNat, Int.reduceLT, Int.reduceLE, Int.reduceEq, Nat.reduceLeDiff, Nat.reduceLT, Nat.reduceMul, Nat.reduceAdd, String.reduceEq]
        refine hQ .ret _ ?_; exact post_ret _ _ _ rfl rfl (DropW.refl _) ⟨rfl, rfl⟩
    · by_cases hb : b = 0
      · rw [hv, show (!decide (a = 0) || !decide (b = 0)) = true from by simp [ha, hb]]
        refine TS.of [] fun Q hQ => ?_
        simp only [go_sem, Nat.reduceEqDiff, Nat.reduceBEq, Int.reduceToNat, Int.reduceLT, Int.reduceLE, Int.reduceEq, Nat.reduceLeDiff, Nat.reduceLT, Nat.reduceMul, Nat.reduceAdd, String.reduceEq, d0, d1, d2, d3, d4, d5, d6, d7, d8, d9, d10, d11, d12, ha, hb]
        refine cal_eq (bit_sim _ _) ?_
        simp only [go_sem, Nat.reduceEqDiff, Nat.reduceBEq, Int.reduceToNat, Int.reduceLT, Int.reduceLE, Int.reduceEq, Nat.reduceLeDiff, Nat.reduceLT, Nat.reduceMul, Nat.reduceAdd, String.reduceEq]
        refine hQ .ret _ ?_; exact post_ret _ _ _ rfl rfl (DropW.refl _) ⟨rfl, rfl⟩
      · rw [hv, show (!decide (a = 0) || !decide (b = 0)) = true from by simp [ha, hb]]
        refine TS.of [] fun Q hQ => ?_
        simp only [go_sem, Nat.reduceEqDiff, Nat.reduceBEq, Int.reduceToNat, Int.reduceLT, Int.reduceLE, Int.reduceEq, Nat.reduceLeDiff, Nat.reduceLT, Nat.reduceMul, Nat.reduceAdd, String.reduceEq, d0, d1, d2, d3, d4, d5, d6, d7, d8, d9, d10, d11, d12, ha, hb]
        refine cal_eq (bit_sim _ _) ?_
        simp only [go_sem, Nat.reduceEqDiff, Nat.reduceBEq, Int.reduceToNat, Int.reduceLT, Int.reduceLE, Int.reduceEq, Nat.reduceLeDiff, Nat.reduceLT, Nat.reduceMul, Nat.reduceAdd, String.reduceEq]
        refine hQ .ret _ ?_; exact post_ret _ _ _ rfl rfl (DropW.refl _) ⟨rfl, rfl⟩
  have d12 : decide (s = ({ data := #[124, 124] } : Bytes)) = false := decide_eq_false e12
  rw [oper_no s a b (by unfold operP; rw [if_neg e0, if_neg e1, if_neg e2, if_neg e3, if_neg e4, if_neg e5, if_neg e6, if_neg e7, if_neg e8, if_neg e9, if_neg e10, if_neg e11, if_neg e12])]
  refine TS.of [] fun Q hQ => ?_
  simp only [go_sem, Nat.reduceEqDiff, Nat.reduceBEq, Int.reduceToNat, Int.reduceLT, Int.reduceLE, Int.reduceEq, Nat.reduceLeDiff, Nat.reduceLT, Nat.reduceMul, Nat.reduceAdd, String.reduceEq, d0, d1, d2, d3, d4, d5, d6, d7, d8, d9, d10, d11, d12]
  refine hQ .ret _ ?_; exact post_ret _ _ _ rfl rfl (DropW.refl _) ⟨rfl, rfl⟩
abbrev pgI (lsn : Int) (cs : List Int) : List IV := ii lsn :: cs.map (IV.v <| .int .i64 ·)
theorem drop_cells {cs : List Int} {i : Int} (h0 : 0 ≤ i) (h1 : i < 60) (hl : cs.length = 60) (t : List IV) : ((cs.map (IV.v <| .int .i64 ·)) ++ t).drop i.toNat = ii (getC cs i) :: ((cs.map (IV.v <| .int .i64 ·)) ++ t).drop (i.toNat + 1) := by
  have hi : i.toNat < cs.length := by omega
  rw [List.drop_eq_getElem_cons (by simp; omega)]
  congr 1
  rw [List.getElem_append_left (by simpa using hi)]
  simp only [List.getElem_map, getC]
  rw [if_neg (by omega), List.getD_eq_getElem?_getD, List.getElem?_eq_getElem hi]; rfl
theorem ints_one (l : List Int) : (l.map (IV.v <| .int .i64 ·)).all IV.one = true := by simp [IV.one, Value.oneCell']
theorem ints_sh (l : List Int) : (l.map (IV.v <| .int .i64 ·)).map IV.sh = l.map (IV.v <| .int .i64 ·) := by simp [IV.sh]
theorem ints_ints : ∀ l : List Int, ints (l.map (IV.v <| .int .i64 ·)) = some l
  | [] => rfl
  | a :: l => by rw [List.map_cons]; simp only [ints]; rw [ints_ints l]; rfl
set_option maxRecDepth 100000 in
set_option maxHeartbeats 4000000 in
theorem get_sim (m : Mem) (lsn : Int) (cs : List Int) (hl : cs.length = 60) (i : Int) : Sim 85 [.agg (pgI lsn cs), ii i] m (fun r m' => r = .tup [ii (getC cs i), bb (decide (0 ≤ i ∧ i < 60))] ∧ m' = m) := by
  refine Sim.ofS 16 [.tmp 4, .tmp 5] Try.func85 rfl rfl rfl (by simp) fun wr => ?_
  simp only [go_sem, Nat.reduceEqDiff, Nat.reduceBEq, Int.reduceToNat, Int.reduceLT, Int.reduceLE, Int.reduceEq, Nat.reduceLeDiff, Nat.reduceLT, Nat.reduceMul, Nat.reduceAdd, String.reduceEq]
  by_cases h0 : i < 0
  · refine TS.of [2] fun Q hQ => ?_
    simp only [go_sem, Nat.reduceEqDiff, Nat.reduceBEq, Int.reduceToNat, Int.reduceLT, Int.reduceLE, Int.reduceEq, Nat.reduceLeDiff, Nat.reduceLT, Nat.reduceMul, Nat.reduceAdd, String.reduceEq, h0, ints_one, ints_sh]
    refine hQ .ret _ ?_; exact post_ret _ _ _ rfl rfl (DropW.refl _) ⟨by rw [getC, if_pos (.inl h0), decide_eq_false (by omega)]; rfl, rfl⟩
  · by_cases h1 : 60 ≤ i
    · refine TS.of [2] fun Q hQ => ?_
      simp only [go_sem, Nat.reduceEqDiff, Nat.reduceBEq, Int.reduceToNat, Int.reduceLT, Int.reduceLE, Int.reduceEq, Nat.reduceLeDiff, Nat.reduceLT, Nat.reduceMul, Nat.reduceAdd, String.reduceEq, h0, h1, ints_one, ints_sh]
      refine hQ .ret _ ?_; exact post_ret _ _ _ rfl rfl (DropW.refl _) ⟨by rw [getC, if_pos (.inr h1), decide_eq_false (by omega)]; rfl, rfl⟩
    · have hd := drop_cells (i := i) (by omega) (by omega) hl ([] : List IV)
      rw [List.append_nil] at hd
      refine TS.of [2] fun Q hQ => ?_
      simp only [go_sem, Nat.reduceEqDiff, Nat.reduceBEq, Int.reduceToNat, Int.reduceLT, Int.reduceLE, Int.reduceEq, Nat.reduceLeDiff, Nat.reduceLT, Nat.reduceMul, Nat.reduceAdd, String.reduceEq, h0, h1, ints_one, ints_sh, show (0 : Int) ≤ i by omega, show i < 60 by omega, hd]
      refine hQ .ret _ ?_; exact post_ret _ _ _ rfl rfl (DropW.refl _) ⟨by rw [decide_eq_true (by omega)]; rfl, rfl⟩
abbrev cellsR (o : Nat) (rs : RS) : List IV := ii rs.lsn :: (rs.cs.map (IV.v <| .int .i64 ·) ++ [.map o, .v .nilIface])
abbrev RM (B : List IObj) (rs : RS) (R : List IObj) : List IObj := B ++ (.map (encM rs.kn) rs.kc :: .cells (cellsR B.length rs) :: R)
def SimR (f : FuncId) (args : List IV) (rs : RS) (r : IV) (rs' : RS) : Prop := ∀ (B R : List IObj) (rw_ : List Nat), Sim f (.ptr (B.length + 1) 0 :: args) ⟨RM B rs R, rw_⟩ (fun x m' => x = r ∧ m' = ⟨RM B rs' R, rw_⟩)
set_option maxRecDepth 100000 in
set_option maxHeartbeats 4000000 in
theorem rcell_sim (m : Mem) (o : Nat) (ho : o < m.objs.length) (i : Int) : Sim 100 [.ptr o 0, ii i] m (fun r m' => r = (if i < 0 ∨ 60 ≤ i then .v (.pointer none) else .ptr o (1 + i.toNat)) ∧ m' = m) := by
  refine Sim.ofS 17 [.tmp 4] Try.func100 rfl rfl rfl (by simp) fun wr => ?_
  simp only [go_sem, Nat.reduceEqDiff, Nat.reduceBEq, Int.reduceToNat, Int.reduceLT, Int.reduceLE, Int.reduceEq, Nat.reduceLeDiff, Nat.reduceLT, Nat.reduceMul, Nat.reduceAdd, String.reduceEq]
  by_cases h0 : i < 0
  · refine TS.of [] fun Q hQ => ?_
    simp only [go_sem, Nat.reduceEqDiff, Nat.reduceBEq, Int.reduceToNat, Int.reduceLT, Int.reduceLE, Int.reduceEq, Nat.reduceLeDiff, Nat.reduceLT, Nat.reduceMul, Nat.reduceAdd, String.reduceEq, h0]
    refine hQ .ret _ ?_; exact post_ret _ _ _ rfl rfl (DropW.refl _) ⟨by rw [if_pos (.inl h0)]; rfl, rfl⟩
  · by_cases h1 : 60 ≤ i
    · refine TS.of [] fun Q hQ => ?_
      simp only [go_sem, Nat.reduceEqDiff, Nat.reduceBEq, Int.reduceToNat, Int.reduceLT, Int.reduceLE, Int.reduceEq, Nat.reduceLeDiff, Nat.reduceLT, Nat.reduceMul, Nat.reduceAdd, String.reduceEq, h0, h1]
      refine hQ .ret _ ?_; exact post_ret _ _ _ rfl rfl (DropW.refl _) ⟨by rw [if_pos (.inr h1)]; rfl, rfl⟩
    · refine TS.of [] fun Q hQ => ?_
      simp only [go_sem, Nat.reduceEqDiff, Nat.reduceBEq, Int.reduceToNat, Int.reduceLT, Int.reduceLE, Int.reduceEq, Nat.reduceLeDiff, Nat.reduceLT, Nat.reduceMul, Nat.reduceAdd, String.reduceEq, h0, h1, show (0 : Int) ≤ i by omega, show i < 60 by omega]
      refine hQ .ret _ ?_; refine post_ret _ _ (.ptr o (1 + i.toNat)) ?_ ?_ (DropW.refl _) ⟨by rw [if_neg (by omega)], rfl⟩
      · simp only [go_sem, Nat.reduceEqDiff, Nat.reduceBEq, Int.reduceToNat, Int.reduceLT, Int.reduceLE, Int.reduceEq, Nat.reduceLeDiff, Nat.reduceLT, Nat.reduceMul, Nat.reduceAdd, String.reduceEq]
      · simp [IV.np, ho]
end Go.Proofs.Ytphjldhdnmoolaa.A
/- The walks of some functions over the abstract machine. -/
namespace Go.Proofs.Ytphjldhdnmoolaa.A
open Go
/-! eval's value -/
theorem valEs_at {rs : RS} : ∀ (l : List Expr) (A : List Int), valEs l rs = some A → A.length = l.length ∧ ∀ (k : Nat) (x : Expr), l[k]? = some x → ∃ v, A[k]? = some v ∧ valE x rs = some v
  | [], A, h => by simp only [valEs, Option.some.injEq] at h; subst h; exact ⟨rfl, fun k x hx => by simp at hx⟩
  | e :: l, A, h => by
    simp only [valEs, Option.bind_eq_some_iff, Option.map_eq_some_iff] at h
    obtain ⟨x, hx, y, hy, rfl⟩ := h
    obtain ⟨h1, h2⟩ := valEs_at l y hy
    refine ⟨by simp [h1], fun k z hz => ?_⟩
    cases k with
    | zero => simp at hz; subst hz; exact ⟨x, rfl, hx⟩
    | succ k => simp at hz; simpa using h2 k z hz
abbrev slA (r0 : Nat) (A : List Int) : IV := .sl (accK r0 3 A.length) A.length (A.map (IV.v <| .int .i64 ·))
theorem drop61 {cs : List Int} (h : cs.length = 60) (t : List IV) : (cs.map (IV.v <| .int .i64 ·) ++ t).drop 60 = t := by rw [List.drop_append_of_le_length (by simp [h])]; simp [List.drop_eq_nil_of_le, h]
theorem drop62 {cs : List Int} (h : cs.length = 60) (a : IV) (t : List IV) : (cs.map (IV.v <| .int .i64 ·) ++ a :: t).drop 61 = t := by
  have := drop61 h (a :: t)
  rw [show (61 : Nat) = 60 + 1 from rfl, ← List.drop_drop, this]; rfl
theorem take61 {cs : List Int} (h : cs.length = 60) (t : List IV) : (cs.map (IV.v <| .int .i64 ·) ++ t).take 60 = cs.map (IV.v <| .int .i64 ·) := by rw [List.take_append_of_le_length (by simp [h]), List.take_of_length_le (by simp [h])]
theorem np_ints (no nr : Nat) : ∀ l : List Int, npL no nr (l.map (IV.v <| .int .i64 ·)) = true
  | [] => rfl
  | a :: l => by rw [List.map_cons, npL, np_ints no nr l]; rfl
def VC (N : Nat) : Prop := ∀ (e : Expr) (rs : RS) (v : Int), szE e ≤ N → rs.cs.length = 60 → valE e rs = some v → ∀ (B R : List IObj) (rw_ : List Nat), Sim 61 [.ptr (B.length + 1) 0, .agg (encE e)] ⟨RM B rs R, rw_⟩ (fun x m' => x = ii v ∧ m' = ⟨RM B rs R, rw_⟩)
def rowsA (r : List Nat) (n : Nat) : List Nat := if n = 0 then r else r ++ [n]
theorem app_rowsA (r : List Nat) (e : TypeId) (n k : Nat) (hk : k ≠ 0) : app (rowsA r n) e n k (accK r.length e n) = some (accK r.length e (n + k), rowsA r (n + k)) := acc_app ⟨[], r⟩ e n k hk
theorem rowsA_0 (r : List Nat) : rowsA r 0 = r := rfl
theorem rowsA_le (r : List Nat) (n k : Nat) : (rowsA r n).length ≤ (rowsA r (n + k)).length := accM_len ⟨[], r⟩ n k
theorem rowsA_app (r : List Nat) (n : Nat) : ∃ x, rowsA r n = r ++ x := ⟨if n = 0 then [] else [n], by unfold rowsA; split <;> simp⟩
theorem accK_rowsA {r : List Nat} {n : Nat} {e : TypeId} : (accK r.length e n).np (rowsA r n).length = true := accK_np ⟨[], r⟩ e n
theorem DropW.rowsA {objs : List IObj} (r : List Nat) (n : Nat) : DropW ⟨objs, r⟩ objs.length r.length ⟨objs, rowsA r n⟩ ⟨objs, r⟩ := by
  obtain ⟨x, hx⟩ := rowsA_app r n
  exact DropW.rows_ (m := ⟨objs, r⟩) x rfl hx
theorem DropW.accR (m : Mem) (n : Nat) : DropW m m.objs.length m.rows.length ⟨m.objs, (accM m n).rows⟩ m := by
  refine DropW.rows_ (if n = 0 then [] else [n]) rfl ?_
  unfold accM; dsimp only; split <;> simp
set_option maxRecDepth 100000 in
set_option maxHeartbeats 4000000 in
theorem value_step {N : Nat} (hNb : N < 900000) (ih : ∀ M, M < N → VC M) : VC N := by
  intro e rs v hN h60 hv B R rw_
  have hsz := szE_eq e
  have hll := szs_len e.a
  rw [show e = .mk e.k e.n e.s e.a e.p by cases e; rfl, valE, Option.bind_eq_some_iff] at hv
  obtain ⟨A, hA, hv⟩ := hv
  obtain ⟨hAl, hAt⟩ := valEs_at _ _ hA
  have d61 := fun t => drop61 h60 t
  have d62 := fun a t => drop62 h60 a t
  refine Sim.ofS 146 [.tmp 4] Try.func61 rfl rfl rfl (by simp) fun wr => ?_
  simp only [go_sem, Nat.reduceEqDiff, Nat.reduceBEq, Int.reduceToNat, Int.reduceLT, Int.reduceLE, Int.reduceEq, Nat.reduceLeDiff, Nat.reduceLT, Nat.reduceMul, Nat.reduceAdd, String.reduceEq]
  refine TS.seq (TS.of [3] fun Q hQ => ?_)
  simp only [go_sem, Nat.reduceEqDiff, Nat.reduceBEq, Int.reduceToNat, Int.reduceLT, Int.reduceLE, Int.reduceEq, Nat.reduceLeDiff, Nat.reduceLT, Nat.reduceMul, Nat.reduceAdd, String.reduceEq, encE_eq]
  refine hQ .normal _ ?_; clear hQ Q
  refine TS.seq (TS.of [3] fun Q hQ => ?_)
  simp only [go_sem, Nat.reduceEqDiff, Nat.reduceBEq, Int.reduceToNat, Int.reduceLT, Int.reduceLE, Int.reduceEq, Nat.reduceLeDiff, Nat.reduceLT, Nat.reduceMul, Nat.reduceAdd, String.reduceEq, d61, d62]
  refine hQ .normal _ ?_; clear hQ Q
  refine TS.seq (TS.of [3] fun Q hQ => ?_)
  simp only [go_sem, Nat.reduceEqDiff, Nat.reduceBEq, Int.reduceToNat, Int.reduceLT, Int.reduceLE, Int.reduceEq, Nat.reduceLeDiff, Nat.reduceLT, Nat.reduceMul, Nat.reduceAdd, String.reduceEq]
  refine hQ .normal _ ?_; clear hQ Q
  refine TS.seq (TS.mono (Q := fun e1 s => e1 = .normal ∧ (s.t 0 = .ptr (B.length + 1) 0 ∧ s.t 3 = .ref (encE e) ∧ s.t 5 = slA rw_.length A) ∧ s.m = ⟨RM B rs R, rowsA rw_ A.length⟩) ?_ ?_)
  · refine TS.seq (TS.of [3] fun Q hQ => ?_)
    simp only [go_sem, Nat.reduceEqDiff, Nat.reduceBEq, Int.reduceToNat, Int.reduceLT, Int.reduceLE, Int.reduceEq, Nat.reduceLeDiff, Nat.reduceLT, Nat.reduceMul, Nat.reduceAdd, String.reduceEq, encE_eq]
    refine hQ .normal _ ?_; clear hQ Q
    refine TS.block (TS.loop (α := Nat) (fun k => [(0, .ptr (B.length + 1) 0), (3, .ref (encE e)), (5, slA rw_.length (A.take k)), (16, slE e.a), (17, ii e.a.length), (18, ii k)]) (fun k => ⟨RM B rs R, rowsA rw_ k⟩) (fun k => k ≤ e.a.length) (fun k => e.a.length - k) 0 (by simp) ⟨by simp [Has, upd_apply, argsT, encE_eq, accK], rfl, by omega⟩ ?_)
    rintro k st hH hm hk
    simp only [Has, List.mem_cons, List.not_mem_nil, or_false, forall_eq_or_imp, forall_eq] at hH; obtain ⟨i0, i3, i5, i16, i17, i18⟩ := hH
    by_cases hlt : k < e.a.length
    · obtain ⟨x, hx⟩ : ∃ x, e.a[k]? = some x := ⟨_, List.getElem?_eq_getElem hlt⟩
      obtain ⟨vx, hvx, hval⟩ := hAt k x hx
      have hat := encEs_at hx
      have hlt5 : k * 5 < (encEs e.a).length := by rw [encEs_length]; omega
      have hw := wrap_succ hlt (by omega)
      have hszx := szE_at hx
      have hsub := ih (szE x) (by omega) x rs vx (Nat.le_refl _) h60 hval B (R ++ [.cells (encE x)]) (rowsA rw_ k)
      rw [encE_eq] at hsub
      have htk : (A.take k).length = k := by rw [List.length_take]; omega
      have htk1 : A.take (k + 1) = A.take k ++ [vx] := by rw [List.take_add_one, hvx]; rfl
      have happ := app_rowsA rw_ 3 k 1 (by decide)
      have hlen : ((A.take k).map (IV.v <| .int .i64 ·)).length = k := by rw [List.length_map, htk]
      have hbound : (k + 1) * 8 ≤ 140737488355328 := by omega
      rw [slA, htk] at i5
      refine TS.of [3] fun Q hQ => ?_
      simp only [go_sem, Nat.reduceEqDiff, Nat.reduceBEq, Int.reduceToNat, Int.reduceLT, Int.reduceLE, Int.reduceEq, Nat.reduceLeDiff, Nat.reduceLT, Nat.reduceMul, Nat.reduceAdd, String.reduceEq, i0, i3, i5, i16, i17, i18, hm, hlt, hat, hlt5]
      refine cal_eq hsub ?_
      simp only [go_sem, Nat.reduceEqDiff, Nat.reduceBEq, Int.reduceToNat, Int.reduceLT, Int.reduceLE, Int.reduceEq, Nat.reduceLeDiff, Nat.reduceLT, Nat.reduceMul, Nat.reduceAdd, String.reduceEq, i0, i3, i5, i16, i17, i18, hw, happ, hlen, hbound]
      refine hQ .normal _ ?_; clear hQ Q
      refine ⟨(RM B rs R).length, (rowsA rw_ (k + 1)).length, k + 1, ?_, ?_, hlt, by omega⟩
      · exact DropW.acc (m0 := ⟨RM B rs R, rowsA rw_ k⟩) (m1 := ⟨RM B rs R, rowsA rw_ (k + 1)⟩) [.cells (encE x)] (by simp [encE_eq]) rfl rfl (rowsA_le rw_ k 1)
      · simp [upd_apply, i0, i3, i16, i17, slA, htk1, htk, IV.np, np_sh, npEs, IV.sh, npL_app, np_ints, npL, accK_rowsA, npE, encE_eq]
        rw [← List.map_take, npL_app]
        all_goals first | exact np_ints _ _ _ | rfl
    · refine TS.of [3] fun Q hQ => ?_
      simp only [go_sem, Nat.reduceEqDiff, Nat.reduceBEq, Int.reduceToNat, Int.reduceLT, Int.reduceLE, Int.reduceEq, Nat.reduceLeDiff, Nat.reduceLT, Nat.reduceMul, Nat.reduceAdd, String.reduceEq, i0, i3, i5, i16, i17, i18, hm, hlt]
      refine hQ (.exit 0) _ ?_; clear hQ Q
      obtain rfl : k = e.a.length := by omega
      rw [List.take_of_length_le (by omega)] at i5
      exact ⟨rfl, by simp [upd_apply, i0, i3, i5], by rw [hAl]⟩
  rintro e1 s2 ⟨rfl, ⟨i0, i3, i5⟩, hm2⟩
  have hend := DropW.rowsA (objs := RM B rs R) rw_ A.length
  refine TS.seq (TS.of [3] fun Q hQ => ?_)
  simp only [go_sem, Nat.reduceEqDiff, Nat.reduceBEq, Int.reduceToNat, Int.reduceLT, Int.reduceLE, Int.reduceEq, Nat.reduceLeDiff, Nat.reduceLT, Nat.reduceMul, Nat.reduceAdd, String.reduceEq, i0, i3, i5, hm2]
  refine hQ .normal _ ?_; clear hQ Q
  refine TS.seq (TS.of [3] fun Q hQ => ?_)
  simp only [go_sem, Nat.reduceEqDiff, Nat.reduceBEq, Int.reduceToNat, Int.reduceLT, Int.reduceLE, Int.reduceEq, Nat.reduceLeDiff, Nat.reduceLT, Nat.reduceMul, Nat.reduceAdd, String.reduceEq]
  refine hQ .normal _ ?_; clear hQ Q
  unfold val1 at hv
  by_cases c1 : e.k = 1 ∧ A = []
  · rw [if_pos c1] at hv
    obtain ⟨k1, rfl⟩ := c1
    simp only [Option.some.injEq] at hv
    subst hv
    refine TS.of [3] fun Q hQ => ?_
    simp only [go_sem, Nat.reduceEqDiff, Nat.reduceBEq, Int.reduceToNat, Int.reduceLT, Int.reduceLE, Int.reduceEq, Nat.reduceLeDiff, Nat.reduceLT, Nat.reduceMul, Nat.reduceAdd, String.reduceEq, encE_eq, k1, i0, i3, i5]
    refine hQ .ret _ ?_; clear hQ Q; refine post_ret _ _ (ii e.n) ?_ rfl hend ⟨rfl, rfl⟩
    simp only [go_sem, Nat.reduceEqDiff, Nat.reduceBEq, Int.reduceToNat, Int.reduceLT, Int.reduceLE, Int.reduceEq, Nat.reduceLeDiff, Nat.reduceLT, Nat.reduceMul, Nat.reduceAdd, String.reduceEq]
  rw [if_neg c1] at hv
  by_cases c2 : e.k = 2 ∧ A = []
  · rw [if_pos c2] at hv
    obtain ⟨k2, rfl⟩ := c2
    by_cases t1 : e.s = qTrue ∨ e.s = qFalse
    · rw [if_pos t1] at hv
      simp only [Option.some.injEq] at hv
      by_cases t2 : e.s = ⟨#[116, 114, 117, 101]⟩
      · have hv1 : v = 1 := by rw [← hv, show decide (e.s = qTrue) = true from decide_eq_true t2]; rfl
        subst hv1
        cases hg : getM e.s rs.kn
        all_goals refine TS.of [3] fun Q hQ => ?_
        all_goals (simp only [go_sem, Nat.reduceEqDiff, Nat.reduceBEq, Int.reduceToNat, Int.reduceLT, Int.reduceLE, Int.reduceEq, Nat.reduceLeDiff, Nat.reduceLT, Nat.reduceMul, Nat.reduceAdd, String.reduceEq, encE_eq, k2, i0, i3, i5])
        all_goals refine drn_of ⟨[], [], []⟩ [0, 1, 3, 7, 0, 16, 63, 127, 255, 255, 511, 2047] (by kernel_rfl) ?_
        all_goals (simp only [go_sem, Nat.reduceEqDiff, Nat.reduceBEq, Int.reduceToNat, Int.reduceLT, Int.reduceLE, Int.reduceEq, Nat.reduceLeDiff, Nat.reduceLT, Nat.reduceMul, Nat.reduceAdd, String.reduceEq, encE_eq, k2, i0, i3, i5, d61, d62, Mem.map_, mlook_enc, mval_enc, some_enc, t2])
        all_goals refine cal_eq (bit_sim _ _) ?_
        all_goals simp only [go_sem, Nat.reduceEqDiff, Nat.reduceBEq, Int.reduceToNat, Int.reduceLT, Int.reduceLE, Int.reduceEq, Nat.reduceLeDiff, Nat.reduceLT, Nat.reduceMul, Nat.reduceAdd, String.reduceEq]
        all_goals (refine hQ .ret _ ?_; clear hQ Q; refine post_ret _ _ (ii 1) ?_ rfl hend ⟨rfl, rfl⟩)
        all_goals simp only [go_sem, Nat.reduceEqDiff, Nat.reduceBEq, Int.reduceToNat, Int.reduceLT, Int.reduceLE, Int.reduceEq, Nat.reduceLeDiff, Nat.reduceLT, Nat.reduceMul, Nat.reduceAdd, String.reduceEq]
        all_goals rfl
      · have t3 : e.s = ⟨#[102, 97, 108, 115, 101]⟩ := by rcases t1 with h | h; exact absurd h t2; exact h
        have t4 : ¬ ((⟨#[102, 97, 108, 115, 101]⟩ : ByteArray) = ⟨#[116, 114, 117, 101]⟩) := by decide
        have hv1 : v = 0 := by rw [← hv, show decide (e.s = qTrue) = false from decide_eq_false t2]; rfl
        subst hv1
        all_goals refine TS.of [3] fun Q hQ => ?_
        all_goals (simp only [go_sem, Nat.reduceEqDiff, Nat.reduceBEq, Int.reduceToNat, Int.reduceLT, Int.reduceLE, Int.reduceEq, Nat.reduceLeDiff, Nat.reduceLT, Nat.reduceMul, Nat.reduceAdd, String.reduceEq, encE_eq, k2, i0, i3, i5])
        all_goals refine drn_of ⟨[], [], []⟩ [0, 1, 3, 7, 0, 16, 63, 127, 255, 255, 511, 2047] (by kernel_rfl) ?_
        all_goals (simp only [go_sem, Nat.reduceEqDiff, Nat.reduceBEq, Int.reduceToNat, Int.reduceLT, Int.reduceLE, Int.reduceEq, Nat.reduceLeDiff, Nat.reduceLT, Nat.reduceMul, Nat.reduceAdd, String.reduceEq, encE_eq, k2, i0, i3, i5, d61, d62, Mem.map_, mlook_enc, mval_enc, some_enc, t3, t4])
        all_goals refine cal_eq (bit_sim _ _) ?_
        all_goals simp only [go_sem, Nat.reduceEqDiff, Nat.reduceBEq, Int.reduceToNat, Int.reduceLT, Int.reduceLE, Int.reduceEq, Nat.reduceLeDiff, Nat.reduceLT, Nat.reduceMul, Nat.reduceAdd, String.reduceEq]
        all_goals (refine hQ .ret _ ?_; clear hQ Q; refine post_ret _ _ (ii 0) ?_ rfl hend ⟨rfl, rfl⟩)
        all_goals simp only [go_sem, Nat.reduceEqDiff, Nat.reduceBEq, Int.reduceToNat, Int.reduceLT, Int.reduceLE, Int.reduceEq, Nat.reduceLeDiff, Nat.reduceLT, Nat.reduceMul, Nat.reduceAdd, String.reduceEq]
        all_goals rfl
    · rw [if_neg t1] at hv
      have t2 : ¬ e.s = ⟨#[116, 114, 117, 101]⟩ := fun h => t1 (.inl h)
      have t3 : ¬ e.s = ⟨#[102, 97, 108, 115, 101]⟩ := fun h => t1 (.inr h)
      refine TS.of [3] fun Q hQ => ?_
      simp only [go_sem, Nat.reduceEqDiff, Nat.reduceBEq, Int.reduceToNat, Int.reduceLT, Int.reduceLE, Int.reduceEq, Nat.reduceLeDiff, Nat.reduceLT, Nat.reduceMul, Nat.reduceAdd, String.reduceEq, encE_eq, k2, i0, i3, i5]
      refine drn_of ⟨[], [], []⟩ [0, 1, 3, 7, 0, 16, 63, 127, 255, 255, 511, 2047] (by kernel_rfl) ?_
      simp only [go_sem, Nat.reduceEqDiff, Nat.reduceBEq, Int.reduceToNat, Int.reduceLT, Int.reduceLE, Int.reduceEq, Nat.reduceLeDiff, Nat.reduceLT, Nat.reduceMul, Nat.reduceAdd, String.reduceEq, encE_eq, k2, i0, i3, i5, d61, d62, Mem.map_, mlook_enc, mval_enc, some_enc, t2, t3, hv, Option.getD_some, Option.isSome_some]
      refine hQ .ret _ ?_; clear hQ Q; refine post_ret _ _ (ii v) ?_ rfl hend ⟨rfl, rfl⟩
      simp only [go_sem, Nat.reduceEqDiff, Nat.reduceBEq, Int.reduceToNat, Int.reduceLT, Int.reduceLE, Int.reduceEq, Nat.reduceLeDiff, Nat.reduceLT, Nat.reduceMul, Nat.reduceAdd, String.reduceEq]
  rw [if_neg c2] at hv
  split at hv
  · rename_i a k3
    simp only [Option.some.injEq] at hv
    subst hv
    refine TS.of [3] fun Q hQ => ?_
    simp only [go_sem, Nat.reduceEqDiff, Nat.reduceBEq, Int.reduceToNat, Int.reduceLT, Int.reduceLE, Int.reduceEq, Nat.reduceLeDiff, Nat.reduceLT, Nat.reduceMul, Nat.reduceAdd, String.reduceEq, encE_eq, k3, i0, i3, i5]
    refine drn_of ⟨[], [], []⟩ [0, 1, 3, 7, 0, 16, 48, 127, 255, 511, 511, 1023] (by kernel_rfl) ?_
    have h58 : 58 ≤ (rs.cs.map (IV.v <| .int .i64 ·)).length := by rw [List.length_map]; omega
    simp only [go_sem, Nat.reduceEqDiff, Nat.reduceBEq, Int.reduceToNat, Int.reduceLT, Int.reduceLE, Int.reduceEq, Nat.reduceLeDiff, Nat.reduceLT, Nat.reduceMul, Nat.reduceAdd, String.reduceEq, encE_eq, k3, i0, i3, i5, d61, d62, take61 h60, h58, ints_sh]
    refine cald_eq (get_sim _ rs.lsn rs.cs h60 a) ?_
    simp only [go_sem, Nat.reduceEqDiff, Nat.reduceBEq, Int.reduceToNat, Int.reduceLT, Int.reduceLE, Int.reduceEq, Nat.reduceLeDiff, Nat.reduceLT, Nat.reduceMul, Nat.reduceAdd, String.reduceEq]
    refine hQ .ret _ ?_; clear hQ Q; refine post_ret _ _ (ii (getC rs.cs a)) ?_ rfl hend ⟨rfl, rfl⟩
    simp only [go_sem, Nat.reduceEqDiff, Nat.reduceBEq, Int.reduceToNat, Int.reduceLT, Int.reduceLE, Int.reduceEq, Nat.reduceLeDiff, Nat.reduceLT, Nat.reduceMul, Nat.reduceAdd, String.reduceEq]
  · rename_i a k4
    simp only [Option.some.injEq] at hv
    subst hv
    refine TS.of [3] fun Q hQ => ?_
    simp only [go_sem, Nat.reduceEqDiff, Nat.reduceBEq, Int.reduceToNat, Int.reduceLT, Int.reduceLE, Int.reduceEq, Nat.reduceLeDiff, Nat.reduceLT, Nat.reduceMul, Nat.reduceAdd, String.reduceEq, encE_eq, k4, i0, i3, i5]
    refine cal_eq (bit_sim _ _) ?_
    simp only [go_sem, Nat.reduceEqDiff, Nat.reduceBEq, Int.reduceToNat, Int.reduceLT, Int.reduceLE, Int.reduceEq, Nat.reduceLeDiff, Nat.reduceLT, Nat.reduceMul, Nat.reduceAdd, String.reduceEq]
    refine hQ .ret _ ?_; clear hQ Q; refine post_ret _ _ (ii (bit (decide (a = 0)))) ?_ rfl hend ⟨rfl, rfl⟩
    simp only [go_sem, Nat.reduceEqDiff, Nat.reduceBEq, Int.reduceToNat, Int.reduceLT, Int.reduceLE, Int.reduceEq, Nat.reduceLeDiff, Nat.reduceLT, Nat.reduceMul, Nat.reduceAdd, String.reduceEq]
  · rename_i a k5
    simp only [Option.some.injEq] at hv
    subst hv
    refine TS.of [3] fun Q hQ => ?_
    simp only [go_sem, Nat.reduceEqDiff, Nat.reduceBEq, Int.reduceToNat, Int.reduceLT, Int.reduceLE, Int.reduceEq, Nat.reduceLeDiff, Nat.reduceLT, Nat.reduceMul, Nat.reduceAdd, String.reduceEq, encE_eq, k5, i0, i3, i5]
    refine hQ .ret _ ?_; clear hQ Q; refine post_ret _ _ (ii (w64 (0 - a))) ?_ rfl hend ⟨rfl, rfl⟩
    simp only [go_sem, Nat.reduceEqDiff, Nat.reduceBEq, Int.reduceToNat, Int.reduceLT, Int.reduceLE, Int.reduceEq, Nat.reduceLeDiff, Nat.reduceLT, Nat.reduceMul, Nat.reduceAdd, String.reduceEq]
  · rename_i a b k6
    have ho := oper_ok e.s a b v hv
    have hsub := fun m => operate_sim m e.s a b
    rw [ho] at hsub
    refine TS.of [3] fun Q hQ => ?_
    simp only [go_sem, Nat.reduceEqDiff, Nat.reduceBEq, Int.reduceToNat, Int.reduceLT, Int.reduceLE, Int.reduceEq, Nat.reduceLeDiff, Nat.reduceLT, Nat.reduceMul, Nat.reduceAdd, String.reduceEq, encE_eq, k6, i0, i3, i5]
    refine drn_of ⟨[], [], []⟩ [0, 1, 0, 4, 12, 0, 32, 96, 255, 511, 1023, 1023, 2047, 8191] (by kernel_rfl) ?_
    simp only [go_sem, Nat.reduceEqDiff, Nat.reduceBEq, Int.reduceToNat, Int.reduceLT, Int.reduceLE, Int.reduceEq, Nat.reduceLeDiff, Nat.reduceLT, Nat.reduceMul, Nat.reduceAdd, String.reduceEq, encE_eq, k6, i0, i3, i5]
    refine cald_eq (hsub _) ?_
    simp only [go_sem, Nat.reduceEqDiff, Nat.reduceBEq, Int.reduceToNat, Int.reduceLT, Int.reduceLE, Int.reduceEq, Nat.reduceLeDiff, Nat.reduceLT, Nat.reduceMul, Nat.reduceAdd, String.reduceEq]
    refine hQ .ret _ ?_; clear hQ Q; refine post_ret _ _ (ii v) ?_ rfl hend ⟨rfl, rfl⟩
    simp only [go_sem, Nat.reduceEqDiff, Nat.reduceBEq, Int.reduceToNat, Int.reduceLT, Int.reduceLE, Int.reduceEq, Nat.reduceLeDiff, Nat.reduceLT, Nat.reduceMul, Nat.reduceAdd, String.reduceEq]
  · cases hv
theorem value_all : ∀ N, N < 900000 → VC N := by
  intro N
  induction N using Nat.strongRecOn with
  | ind N ih => intro hN; exact value_step hN fun M h => ih M h (by omega)
theorem value_sim {e : Expr} {rs : RS} {v : Int} (h : szE e < 900000) (h60 : rs.cs.length = 60) (hv : valE e rs = some v) (B R : List IObj) (rw_ : List Nat) : Sim 61 [.ptr (B.length + 1) 0, .agg (encE e)] ⟨RM B rs R, rw_⟩ (fun x m' => x = ii v ∧ m' = ⟨RM B rs R, rw_⟩) := value_all _ h e rs v (Nat.le_refl _) h60 hv B R rw_
end Go.Proofs.Ytphjldhdnmoolaa.A
/- The walks of some functions over the abstract machine. -/
namespace Go.Proofs.Ytphjldhdnmoolaa.A
open Go
/-! ref08: faults, wants, kind, need -/
def failF (st : Int × Int) (code at_ : Int) : Int × Int := if st.1 = 0 then (code, at_) else st
abbrev cellsF (sl : IV) (st : Int × Int) : List IV := [sl, ii st.1, ii st.2]
abbrev FM (B : List IObj) (sl : IV) (st : Int × Int) (R : List IObj) : List IObj := B ++ (.cells (cellsF sl st) :: R)
def SimF (f : FuncId) (args : List IV) (st : Int × Int) (r : IV) (st' : Int × Int) : Prop := ∀ (B R : List IObj) (rw_ : List Nat) (sl : IV), (∀ no, sl.np no rw_.length = true) → Sim f (.ptr B.length 0 :: args) ⟨FM B sl st R, rw_⟩ (fun x m' => x = r ∧ m' = ⟨FM B sl st' R, rw_⟩)
theorem DropW.fm (B : List IObj) (sl : IV) (st st' : Int × Int) (R X : List IObj) (R0 R1 R2 : List Nat) (h3 : R0.length ≤ R1.length) (h4 : R2.take R1.length = R1) (hs : ∀ no, sl.np no R1.length = true) : DropW ⟨FM B sl st R, R0⟩ (B.length + (R.length + 1)) R1.length ⟨FM B sl st' (R ++ X), R2⟩ ⟨FM B sl st' R, R1⟩ := by
  refine ⟨?_, h4.symm, by simp, h3, fun o x hx hl => ?_⟩
  · simp only [FM]
    rw [List.take_append, List.take_of_length_le (by omega)]
    congr 1
    rw [show B.length + (R.length + 1) - B.length = R.length + 1 by omega]
    simp
  · simp only [FM] at hx
    by_cases h1 : o < B.length
    · left; rw [List.getElem?_append_left h1] at hx; simp only [FM]; rw [List.getElem?_append_left h1]; exact hx
    · rw [List.getElem?_append_right (by omega)] at hx
      generalize hk : o - B.length = k at hx
      match k, hx with
      | 0, hx => right; simp at hx; subst hx; simp [IObj.np, npL, IV.np, hs]
      | k + 1, hx =>
        left
        simp only [FM]
        rw [List.getElem?_append_right (by omega), hk]
        simp only [List.getElem?_cons_succ] at hx ⊢
        rw [List.getElem?_append_left (by omega)] at hx
        exact hx
theorem DropW.fm0 (B : List IObj) (sl : IV) (st st' : Int × Int) (R : List IObj) (rw_ : List Nat) (hs : ∀ no, sl.np no rw_.length = true) : DropW ⟨FM B sl st R, rw_⟩ (B.length + (R.length + 1)) rw_.length ⟨FM B sl st' R, rw_⟩ ⟨FM B sl st' R, rw_⟩ := by
  have h := DropW.fm B sl st st' R [] rw_ rw_ rw_ (Nat.le_refl _) (by simp) hs
  rwa [List.append_nil] at h
theorem SimF.mem {f : FuncId} {args : List IV} {st st' : Int × Int} {r : IV} (h : SimF f args st r st') (B R : List IObj) (rw_ : List Nat) (sl : IV) (hs : ∀ no, sl.np no rw_.length = true) : Sim f (.ptr B.length 0 :: args) ⟨FM B sl st R, rw_⟩ (fun x m' => x = r ∧ m' = ⟨FM B sl st' R, rw_⟩) := h B R rw_ sl hs
set_option maxRecDepth 100000 in
set_option maxHeartbeats 4000000 in
theorem rfail_sim (st : Int × Int) (code at_ : Int) : SimF 53 [ii code, ii at_] st (.tup []) (failF st code at_) := by
  intro B R rw_ sl hs
  obtain ⟨c, a⟩ := st
  refine Sim.ofS 19 [] Try.func53 rfl rfl rfl (by simp) fun wr => ?_
  simp only [go_sem, Nat.reduceEqDiff, Nat.reduceBEq, Int.reduceToNat, Int.reduceLT, Int.reduceLE, Int.reduceEq, Nat.reduceLeDiff, Nat.reduceLT, Nat.reduceMul, Nat.reduceAdd, String.reduceEq]
  by_cases h : c = 0
  · refine TS.of [] fun Q hQ => ?_
    simp only [go_sem, Nat.reduceEqDiff, Nat.reduceBEq, Int.reduceToNat, Int.reduceLT, Int.reduceLE, Int.reduceEq, Nat.reduceLeDiff, Nat.reduceLT, Nat.reduceMul, Nat.reduceAdd, String.reduceEq, eq_true h]
    refine hQ .normal _ ?_
    exact post_end _ _ (.tup []) (by simp only [go_sem, Nat.reduceEqDiff, Nat.reduceBEq, Int.reduceToNat, Int.reduceLT, Int.reduceLE, Int.reduceEq, Nat.reduceLeDiff, Nat.reduceLT, Nat.reduceMul, Nat.reduceAdd, String.reduceEq]) rfl (DropW.fm0 B sl (c, a) (code, at_) R rw_ hs) ⟨rfl, by rw [failF, if_pos h]⟩
  · refine TS.of [] fun Q hQ => ?_
    simp only [go_sem, Nat.reduceEqDiff, Nat.reduceBEq, Int.reduceToNat, Int.reduceLT, Int.reduceLE, Int.reduceEq, Nat.reduceLeDiff, Nat.reduceLT, Nat.reduceMul, Nat.reduceAdd, String.reduceEq, eq_false h]
    refine hQ .normal _ ?_
    exact post_end _ _ (.tup []) (by simp only [go_sem, Nat.reduceEqDiff, Nat.reduceBEq, Int.reduceToNat, Int.reduceLT, Int.reduceLE, Int.reduceEq, Nat.reduceLeDiff, Nat.reduceLT, Nat.reduceMul, Nat.reduceAdd, String.reduceEq]) rfl (DropW.fm0 B sl (c, a) (c, a) R rw_ hs) ⟨rfl, by rw [failF, if_neg h]⟩
def wantsP (k : Int) (s : Bytes) (i : Nat) (T : List Int) : Int := if k = 4 then 2 else if k ≠ 6 then 1 else if s = qAnd ∨ s = qOr then 2 else if s = qEq ∨ s = qNe then (if i = 0 then 0 else T.headD 0) else 1
set_option maxRecDepth 100000 in
set_option maxHeartbeats 4000000 in
theorem wants_sim (m : Mem) (e : Expr) (i : Nat) (t0 : Int) (T : List Int) : Sim 95 [.agg (encE e), ii i, .sl .sh (T.length + 1) (ii t0 :: T.map (IV.v <| .int .i64 ·))] m (fun r m' => r = ii (wantsP e.k e.s i (t0 :: T)) ∧ m' = m) := by
  refine Sim.ofS 26 [.tmp 6] Try.func95 rfl rfl rfl (by simp) fun wr => ?_
  simp only [go_sem, Nat.reduceEqDiff, Nat.reduceBEq, Int.reduceToNat, Int.reduceLT, Int.reduceLE, Int.reduceEq, Nat.reduceLeDiff, Nat.reduceLT, Nat.reduceMul, Nat.reduceAdd, String.reduceEq]
  have hT : (0 : Int) < ((T.length + 1 : Nat) : Int) := by omega
  have hT2 : 0 < (T.map (IV.v <| .int .i64 ·)).length + 1 := by omega
  by_cases k4 : e.k = 4
  · have hv : wantsP e.k e.s i (t0 :: T) = 2 := by rw [wantsP, if_pos k4]
    refine TS.of [3] fun Q hQ => ?_
    simp only [go_sem, Nat.reduceEqDiff, Nat.reduceBEq, Int.reduceToNat, Int.reduceLT, Int.reduceLE, Int.reduceEq, Nat.reduceLeDiff, Nat.reduceLT, Nat.reduceMul, Nat.reduceAdd, String.reduceEq, encE_eq, eq_true k4]
    refine hQ .ret _ ?_; exact post_ret _ _ _ rfl rfl (DropW.refl _) ⟨by rw [hv]; rfl, rfl⟩
  by_cases k6 : e.k = 6
  · by_cases s1 : e.s = qAnd
    · have d1 : decide (e.s = ({ data := #[38, 38] } : Bytes)) = true := decide_eq_true s1
      have hv : wantsP e.k e.s i (t0 :: T) = 2 := by rw [wantsP, if_neg k4, if_neg (by simpa using k6), if_pos (.inl s1)]
      refine TS.of [3] fun Q hQ => ?_
      simp only [go_sem, Nat.reduceEqDiff, Nat.reduceBEq, Int.reduceToNat, Int.reduceLT, Int.reduceLE, Int.reduceEq, Nat.reduceLeDiff, Nat.reduceLT, Nat.reduceMul, Nat.reduceAdd, String.reduceEq, encE_eq, eq_false k4, eq_true k6, d1]
      refine hQ .ret _ ?_; exact post_ret _ _ _ rfl rfl (DropW.refl _) ⟨by rw [hv]; rfl, rfl⟩
    have d1 : decide (e.s = ({ data := #[38, 38] } : Bytes)) = false := decide_eq_false s1
    by_cases s2 : e.s = qOr
    · have d2 : decide (e.s = ({ data := #[124, 124] } : Bytes)) = true := decide_eq_true s2
      have hv : wantsP e.k e.s i (t0 :: T) = 2 := by rw [wantsP, if_neg k4, if_neg (by simpa using k6), if_pos (.inr s2)]
      refine TS.of [3] fun Q hQ => ?_
      simp only [go_sem, Nat.reduceEqDiff, Nat.reduceBEq, Int.reduceToNat, Int.reduceLT, Int.reduceLE, Int.reduceEq, Nat.reduceLeDiff, Nat.reduceLT, Nat.reduceMul, Nat.reduceAdd, String.reduceEq, encE_eq, eq_false k4, eq_true k6, d1, d2]
      refine hQ .ret _ ?_; exact post_ret _ _ _ rfl rfl (DropW.refl _) ⟨by rw [hv]; rfl, rfl⟩
    have d2 : decide (e.s = ({ data := #[124, 124] } : Bytes)) = false := decide_eq_false s2
    have hn : ¬ (e.s = qAnd ∨ e.s = qOr) := by rintro (h | h); exact s1 h; exact s2 h
    by_cases s3 : e.s = qEq ∨ e.s = qNe
    · have hv : wantsP e.k e.s i (t0 :: T) = if i = 0 then 0 else t0 := by rw [wantsP, if_neg k4, if_neg (by simpa using k6), if_neg hn, if_pos s3]; rfl
      by_cases s4 : e.s = qEq
      · have d3 : decide (e.s = ({ data := #[61, 61] } : Bytes)) = true := decide_eq_true s4
        by_cases hi : i = 0
        · subst hi
          refine TS.of [3] fun Q hQ => ?_
          simp only [go_sem, Nat.reduceEqDiff, Nat.reduceBEq, Int.reduceToNat, Int.reduceLT, Int.reduceLE, Int.reduceEq, Nat.reduceLeDiff, Nat.reduceLT, Nat.reduceMul, Nat.reduceAdd, String.reduceEq, encE_eq, eq_false k4, eq_true k6, d1, d2, d3]
          refine hQ .ret _ ?_; exact post_ret _ _ _ rfl rfl (DropW.refl _) ⟨by rw [hv]; rfl, rfl⟩
        · have hi' : ¬ ((i : Int) = 0) := by omega
          refine TS.of [3] fun Q hQ => ?_
          simp only [go_sem, Nat.reduceEqDiff, Nat.reduceBEq, Int.reduceToNat, Int.reduceLT, Int.reduceLE, Int.reduceEq, Nat.reduceLeDiff, Nat.reduceLT, Nat.reduceMul, Nat.reduceAdd, String.reduceEq, encE_eq, eq_false k4, eq_true k6, d1, d2, d3, eq_false hi', hT, hT2, Nat.zero_lt_succ]
          refine hQ .ret _ ?_; exact post_ret _ _ _ rfl rfl (DropW.refl _) ⟨by rw [hv, if_neg hi]; rfl, rfl⟩
      · have s5 : e.s = qNe := by rcases s3 with h | h; exact absurd h s4; exact h
        have d3 : decide (e.s = ({ data := #[61, 61] } : Bytes)) = false := decide_eq_false s4
        have d4 : decide (e.s = ({ data := #[33, 61] } : Bytes)) = true := decide_eq_true s5
        by_cases hi : i = 0
        · subst hi
          refine TS.of [3] fun Q hQ => ?_
          simp only [go_sem, Nat.reduceEqDiff, Nat.reduceBEq, Int.reduceToNat, Int.reduceLT, Int.reduceLE, Int.reduceEq, Nat.reduceLeDiff, Nat.reduceLT, Nat.reduceMul, Nat.reduceAdd, String.reduceEq, encE_eq, eq_false k4, eq_true k6, d1, d2, d3, d4]
          refine hQ .ret _ ?_; exact post_ret _ _ _ rfl rfl (DropW.refl _) ⟨by rw [hv]; rfl, rfl⟩
        · have hi' : ¬ ((i : Int) = 0) := by omega
          refine TS.of [3] fun Q hQ => ?_
          simp only [go_sem, Nat.reduceEqDiff, Nat.reduceBEq, Int.reduceToNat, Int.reduceLT, Int.reduceLE, Int.reduceEq, Nat.reduceLeDiff, Nat.reduceLT, Nat.reduceMul, Nat.reduceAdd, String.reduceEq, encE_eq, eq_false k4, eq_true k6, d1, d2, d3, d4, eq_false hi', hT, hT2, Nat.zero_lt_succ]
          refine hQ .ret _ ?_; exact post_ret _ _ _ rfl rfl (DropW.refl _) ⟨by rw [hv, if_neg hi]; rfl, rfl⟩
    · have d3 : decide (e.s = ({ data := #[61, 61] } : Bytes)) = false := decide_eq_false fun h => s3 (.inl h)
      have d4 : decide (e.s = ({ data := #[33, 61] } : Bytes)) = false := decide_eq_false fun h => s3 (.inr h)
      have hv : wantsP e.k e.s i (t0 :: T) = 1 := by rw [wantsP, if_neg k4, if_neg (by simpa using k6), if_neg hn, if_neg s3]
      refine TS.of [3] fun Q hQ => ?_
      simp only [go_sem, Nat.reduceEqDiff, Nat.reduceBEq, Int.reduceToNat, Int.reduceLT, Int.reduceLE, Int.reduceEq, Nat.reduceLeDiff, Nat.reduceLT, Nat.reduceMul, Nat.reduceAdd, String.reduceEq, encE_eq, eq_false k4, eq_true k6, d1, d2, d3, d4]
      refine hQ .ret _ ?_; exact post_ret _ _ _ rfl rfl (DropW.refl _) ⟨by rw [hv]; rfl, rfl⟩
  · have hv : wantsP e.k e.s i (t0 :: T) = 1 := by rw [wantsP, if_neg k4, if_pos k6]
    refine TS.of [3] fun Q hQ => ?_
    simp only [go_sem, Nat.reduceEqDiff, Nat.reduceBEq, Int.reduceToNat, Int.reduceLT, Int.reduceLE, Int.reduceEq, Nat.reduceLeDiff, Nat.reduceLT, Nat.reduceMul, Nat.reduceAdd, String.reduceEq, encE_eq, eq_false k4, eq_false k6]
    refine hQ .ret _ ?_; exact post_ret _ _ _ rfl rfl (DropW.refl _) ⟨by rw [hv]; rfl, rfl⟩
end Go.Proofs.Ytphjldhdnmoolaa.A
/- The walks of some functions over the abstract machine. -/
namespace Go.Proofs.Ytphjldhdnmoolaa.A
open Go
/-! ref08: kind, need -/
abbrev Env := List (Bytes × Int)
def encV : Env → List IV
  | [] => []
  | p :: l => ss p.1 :: ii p.2 :: encV l
theorem encV_len : ∀ l : Env, (encV l).length = l.length * 2
  | [] => rfl
  | p :: l => by simp only [encV, List.length_cons, encV_len l]; omega
theorem encV_at : ∀ {l : Env} {k : Nat} {p : Bytes × Int}, l[k]? = some p → (encV l).drop (k * 2) = [ss p.1, ii p.2] ++ encV (l.drop (k + 1))
  | q :: l, 0, p, h => by simp at h; subst h; rfl
  | q :: l, k + 1, p, h => by
    simp at h
    have := encV_at h
    rw [show (k + 1) * 2 = k * 2 + 1 + 1 by omega, encV, List.drop_succ_cons, List.drop_succ_cons, this]; rfl
theorem npV (no nr : Nat) : ∀ l : Env, npL no nr (encV l) = true
  | [] => rfl
  | p :: l => by simp only [encV, npL, npV no nr l]; rfl
theorem encV_app : ∀ (l l' : Env), encV (l ++ l') = encV l ++ encV l'
  | [], l' => rfl
  | p :: l, l' => by simp only [List.cons_append, encV, encV_app l l']
theorem encV_one : ∀ l : Env, (encV l).all IV.one = true
  | [] => rfl
  | p :: l => by simp only [encV, List.all_cons, encV_one l]; rfl
theorem encV_sh : ∀ l : Env, (encV l).map IV.sh = encV l
  | [] => rfl
  | p :: l => by simp only [encV, List.map_cons, encV_sh l]; rfl
abbrev slV (l : Env) : IV := .sl .sh l.length (encV l)
def look (s : Bytes) : Env → Option Int
  | [] => none
  | p :: l => if p.1 = s then some p.2 else look s l
def arith (s : Bytes) : Bool := decide (s = qAdd) || (decide (s = qSub) || (decide (s = qMul) || (decide (s = qDiv) || decide (s = qRem))))
mutual
def kindE : Expr → Env → Int × Int → Int × (Int × Int)
  | .mk k _ s a p, env, st =>
    if k = 2 then (if s = qTrue ∨ s = qFalse then (2, kindA k s a env 0 [] st) else match look s env with
      | some t => (t, kindA k s a env 0 [] st)
      | none => (1, failF (kindA k s a env 0 [] st) 9 p))
    else if k = 4 then (2, kindA k s a env 0 [] st)
    else if k = 6 then ((if arith s then 1 else 2), kindA k s a env 0 [] st)
    else (1, kindA k s a env 0 [] st)
def kindA (k : Int) (s : Bytes) : List Expr → Env → Nat → List Int → Int × Int → Int × Int
  | [], _, _, _, st => st
  | e :: l, env, i, T, st => kindA k s l env (i + 1) (T ++ [(kindE e env st).1]) (if wantsP k s i (T ++ [(kindE e env st).1]) ≠ 0 ∧ (kindE e env st).1 ≠ wantsP k s i (T ++ [(kindE e env st).1]) then failF (kindE e env st).2 10 e.p else (kindE e env st).2)
end
def KC (N : Nat) : Prop := ∀ (e : Expr) (env : Env) (st : Int × Int), szE e ≤ N → env.length < 900000 → SimF 77 [.agg (encE e), slV env] st (ii (kindE e env st).1) (kindE e env st).2
theorem rowsA_lt (r : List Nat) (n : Nat) : r.length ≤ (rowsA r n).length := by unfold rowsA; split <;> simp
theorem rowsA_take (r : List Nat) (n : Nat) : (rowsA r n).take r.length = r := by unfold rowsA; split <;> simp
set_option maxRecDepth 100000 in
set_option maxHeartbeats 4000000 in
theorem kind_step {N : Nat} (hNb : N < 900000) (ih : ∀ M, M < N → KC M) : KC N := by
  intro e env st0 hN henv B R rw_ sl hs
  have hsz := szE_eq e
  have hll := szs_len e.a
  have hmono : ∀ n no, sl.np no (rowsA rw_ n).length = true := fun n no => IV.np_mono (Nat.le_refl _) (rowsA_lt _ _) _ (hs no)
  refine Sim.ofS 97 [.tmp 6] Try.func77 rfl rfl rfl (by simp) fun wr => ?_
  simp only [go_sem, Nat.reduceEqDiff, Nat.reduceBEq, Int.reduceToNat, Int.reduceLT, Int.reduceLE, Int.reduceEq, Nat.reduceLeDiff, Nat.reduceLT, Nat.reduceMul, Nat.reduceAdd, String.reduceEq]
  refine TS.seq (TS.of [4] fun Q hQ => ?_)
  simp only [go_sem, Nat.reduceEqDiff, Nat.reduceBEq, Int.reduceToNat, Int.reduceLT, Int.reduceLE, Int.reduceEq, Nat.reduceLeDiff, Nat.reduceLT, Nat.reduceMul, Nat.reduceAdd, String.reduceEq, encE_eq]
  refine hQ .normal _ ?_; clear hQ Q
  refine TS.seq (TS.of [4] fun Q hQ => ?_)
  simp only [go_sem, Nat.reduceEqDiff, Nat.reduceBEq, Int.reduceToNat, Int.reduceLT, Int.reduceLE, Int.reduceEq, Nat.reduceLeDiff, Nat.reduceLT, Nat.reduceMul, Nat.reduceAdd, String.reduceEq]
  refine hQ .normal _ ?_; clear hQ Q
  generalize hF : kindA e.k e.s e.a env 0 [] st0 = F
  refine TS.seq (TS.mono (Q := fun e1 s => e1 = .normal ∧ (s.t 0 = .ptr B.length 0 ∧ s.t 2 = slV env ∧ s.t 4 = .ref (encE e)) ∧ ∃ n, s.m = ⟨FM B sl F R, rowsA rw_ n⟩) ?_ ?_)
  · refine TS.seq (TS.of [4] fun Q hQ => ?_)
    simp only [go_sem, Nat.reduceEqDiff, Nat.reduceBEq, Int.reduceToNat, Int.reduceLT, Int.reduceLE, Int.reduceEq, Nat.reduceLeDiff, Nat.reduceLT, Nat.reduceMul, Nat.reduceAdd, String.reduceEq, encE_eq]
    refine hQ .normal _ ?_; clear hQ Q
    refine TS.block (TS.loop (α := List Int × (Int × Int)) (fun x => [(0, .ptr B.length 0), (2, slV env), (4, .ref (encE e)), (7, slA rw_.length x.1), (8, ii x.1.length)]) (fun x => ⟨FM B sl x.2 R, rowsA rw_ x.1.length⟩) (fun x => x.1.length ≤ e.a.length ∧ kindA e.k e.s (e.a.drop x.1.length) env x.1.length x.1 x.2 = F) (fun x => e.a.length - x.1.length) ([], st0) (by simp) ⟨by simp [Has, upd_apply, argsT, encE_eq, accK], rfl, by simp [hF]⟩ ?_)
    rintro ⟨T, s1⟩ st hH hm ⟨hk, hrest⟩
    dsimp only at hH hm hk hrest
    simp only [Has, List.mem_cons, List.not_mem_nil, or_false, forall_eq_or_imp, forall_eq] at hH; obtain ⟨i0, i2, i4, i7, i8⟩ := hH
    by_cases hlt : T.length < e.a.length
    · obtain ⟨x, hx⟩ : ∃ x, e.a[T.length]? = some x := ⟨_, List.getElem?_eq_getElem hlt⟩
      have hdr : e.a.drop T.length = x :: e.a.drop (T.length + 1) := by rw [List.drop_eq_getElem_cons hlt]; congr 1; exact Option.some.inj ((List.getElem?_eq_getElem hlt).symm.trans hx)
      have hat := encEs_at hx
      have hlt5 : T.length * 5 < (encEs e.a).length := by rw [encEs_length]; omega
      have hw := wrap_succ hlt (by omega)
      have hszx := szE_at hx
      rw [hdr, kindA] at hrest
      have hsub := (ih (szE x) (by omega) x env s1 (Nat.le_refl _) henv).mem B R (rowsA rw_ T.length) sl (hmono _)
      rw [encE_eq] at hsub
      generalize kindE x env s1 = X at hsub hrest
      obtain ⟨t, s2⟩ := X
      dsimp only at hsub hrest
      have happ := app_rowsA rw_ 3 T.length 1 (by decide)
      have hlen : (T.map (IV.v <| .int .i64 ·)).length = T.length := List.length_map ..
      have hbound : (T.length + 1) * 8 ≤ 140737488355328 := by omega
      have hT1 : (T ++ [t]).length = T.length + 1 := by simp
      have hwt : ∀ m, Sim 95 [.agg (encE e), ii T.length, .sl .sh (T.length + 1) ((T.map (IV.v <| .int .i64 ·)) ++ [ii t])] m (fun r m' => r = ii (wantsP e.k e.s T.length (T ++ [t])) ∧ m' = m) := fun m => by
        cases T with
        | nil => exact wants_sim m e 0 t []
        | cons t0 T' =>
          have := wants_sim m e (t0 :: T').length t0 (T' ++ [t])
          simpa using this
      rw [encE_eq] at hwt
      generalize wantsP e.k e.s T.length (T ++ [t]) = w at hwt hrest
      by_cases hc : w ≠ 0 ∧ t ≠ w
      · rw [if_pos hc] at hrest
        have hf := (rfail_sim s2 10 x.p).mem B R (rowsA rw_ (T.length + 1)) sl (hmono _)
        refine TS.of [4] fun Q hQ => ?_
        simp only [go_sem, Nat.reduceEqDiff, Nat.reduceBEq, Int.reduceToNat, Int.reduceLT, Int.reduceLE, Int.reduceEq, Nat.reduceLeDiff, Nat.reduceLT, Nat.reduceMul, Nat.reduceAdd, String.reduceEq, i0, i2, i4, i7, i8, encE_eq, hm, hlt, hat, hlt5]
        refine cal_eq hsub ?_
        simp only [go_sem, Nat.reduceEqDiff, Nat.reduceBEq, Int.reduceToNat, Int.reduceLT, Int.reduceLE, Int.reduceEq, Nat.reduceLeDiff, Nat.reduceLT, Nat.reduceMul, Nat.reduceAdd, String.reduceEq, i0, i2, i4, i7, i8, encE_eq, happ, hlen, hbound]
        refine cal_eq (hwt _) ?_
        simp only [go_sem, Nat.reduceEqDiff, Nat.reduceBEq, Int.reduceToNat, Int.reduceLT, Int.reduceLE, Int.reduceEq, Nat.reduceLeDiff, Nat.reduceLT, Nat.reduceMul, Nat.reduceAdd, String.reduceEq, i0, i2, i4, i7, i8, encE_eq, eq_false hc.1, eq_false hc.2, hlt, hat, hlt5]
        refine cal_eq hf ?_
        simp only [go_sem, Nat.reduceEqDiff, Nat.reduceBEq, Int.reduceToNat, Int.reduceLT, Int.reduceLE, Int.reduceEq, Nat.reduceLeDiff, Nat.reduceLT, Nat.reduceMul, Nat.reduceAdd, String.reduceEq, i0, i2, i4, i7, i8, hw]
        refine hQ .normal _ ?_; clear hQ Q
        refine ⟨B.length + (R.length + 1), (rowsA rw_ (T.length + 1)).length, (T ++ [t], failF s2 10 x.p), by rw [hT1]; have h := DropW.fm B sl s1 (failF s2 10 x.p) R [] (rowsA rw_ T.length) (rowsA rw_ (T.length + 1)) (rowsA rw_ (T.length + 1)) (rowsA_le rw_ _ 1) (by simp) (hmono _); rwa [List.append_nil] at h, ?_, ⟨by rw [hT1]; exact hlt, by rw [hT1]; exact hrest⟩, by dsimp only; rw [hT1]; omega⟩
        simp [upd_apply, i0, i2, i4, slA, hT1, IV.np, np_sh, npV, npE, IV.sh, accK_rowsA]
        exact npL_app (np_ints _ _ _) rfl
      · rw [if_neg hc] at hrest
        by_cases hw0 : w = 0
        · subst hw0
          refine TS.of [4] fun Q hQ => ?_
          simp only [go_sem, Nat.reduceEqDiff, Nat.reduceBEq, Int.reduceToNat, Int.reduceLT, Int.reduceLE, Int.reduceEq, Nat.reduceLeDiff, Nat.reduceLT, Nat.reduceMul, Nat.reduceAdd, String.reduceEq, i0, i2, i4, i7, i8, encE_eq, hm, hlt, hat, hlt5]
          refine cal_eq hsub ?_
          simp only [go_sem, Nat.reduceEqDiff, Nat.reduceBEq, Int.reduceToNat, Int.reduceLT, Int.reduceLE, Int.reduceEq, Nat.reduceLeDiff, Nat.reduceLT, Nat.reduceMul, Nat.reduceAdd, String.reduceEq, i0, i2, i4, i7, i8, encE_eq, happ, hlen, hbound]
          refine cal_eq (hwt _) ?_
          simp only [go_sem, Nat.reduceEqDiff, Nat.reduceBEq, Int.reduceToNat, Int.reduceLT, Int.reduceLE, Int.reduceEq, Nat.reduceLeDiff, Nat.reduceLT, Nat.reduceMul, Nat.reduceAdd, String.reduceEq, i0, i2, i4, i7, i8, hw]
          refine hQ .normal _ ?_; clear hQ Q
          refine ⟨B.length + (R.length + 1), (rowsA rw_ (T.length + 1)).length, (T ++ [t], s2), by rw [hT1]; have h := DropW.fm B sl s1 s2 R [] (rowsA rw_ T.length) (rowsA rw_ (T.length + 1)) (rowsA rw_ (T.length + 1)) (rowsA_le rw_ _ 1) (by simp) (hmono _); rwa [List.append_nil] at h, ?_, ⟨by rw [hT1]; exact hlt, by rw [hT1]; exact hrest⟩, by dsimp only; rw [hT1]; omega⟩
          simp [upd_apply, i0, i2, i4, slA, hT1, IV.np, np_sh, npV, npE, IV.sh, accK_rowsA]
          exact npL_app (np_ints _ _ _) rfl
        · have htw : t = w := Decidable.byContradiction fun h => hc ⟨hw0, h⟩
          subst htw
          refine TS.of [4] fun Q hQ => ?_
          simp only [go_sem, Nat.reduceEqDiff, Nat.reduceBEq, Int.reduceToNat, Int.reduceLT, Int.reduceLE, Int.reduceEq, Nat.reduceLeDiff, Nat.reduceLT, Nat.reduceMul, Nat.reduceAdd, String.reduceEq, i0, i2, i4, i7, i8, encE_eq, hm, hlt, hat, hlt5]
          refine cal_eq hsub ?_
          simp only [go_sem, Nat.reduceEqDiff, Nat.reduceBEq, Int.reduceToNat, Int.reduceLT, Int.reduceLE, Int.reduceEq, Nat.reduceLeDiff, Nat.reduceLT, Nat.reduceMul, Nat.reduceAdd, String.reduceEq, i0, i2, i4, i7, i8, encE_eq, happ, hlen, hbound]
          refine cal_eq (hwt _) ?_
          simp only [go_sem, Nat.reduceEqDiff, Nat.reduceBEq, Int.reduceToNat, Int.reduceLT, Int.reduceLE, Int.reduceEq, Nat.reduceLeDiff, Nat.reduceLT, Nat.reduceMul, Nat.reduceAdd, String.reduceEq, i0, i2, i4, i7, i8, hw, eq_false hw0]
          refine hQ .normal _ ?_; clear hQ Q
          refine ⟨B.length + (R.length + 1), (rowsA rw_ (T.length + 1)).length, (T ++ [t], s2), by rw [hT1]; have h := DropW.fm B sl s1 s2 R [] (rowsA rw_ T.length) (rowsA rw_ (T.length + 1)) (rowsA rw_ (T.length + 1)) (rowsA_le rw_ _ 1) (by simp) (hmono _); rwa [List.append_nil] at h, ?_, ⟨by rw [hT1]; exact hlt, by rw [hT1]; exact hrest⟩, by dsimp only; rw [hT1]; omega⟩
          simp [upd_apply, i0, i2, i4, slA, hT1, IV.np, np_sh, npV, npE, IV.sh, accK_rowsA]
          exact npL_app (np_ints _ _ _) rfl
    · refine TS.of [4] fun Q hQ => ?_
      simp only [go_sem, Nat.reduceEqDiff, Nat.reduceBEq, Int.reduceToNat, Int.reduceLT, Int.reduceLE, Int.reduceEq, Nat.reduceLeDiff, Nat.reduceLT, Nat.reduceMul, Nat.reduceAdd, String.reduceEq, i0, i2, i4, i7, i8, encE_eq, hm, hlt]
      refine hQ (.exit 0) _ ?_; clear hQ Q
      rw [List.drop_eq_nil_of_le (by omega), kindA] at hrest
      subst hrest
      exact ⟨rfl, by simp [upd_apply, i0, i2, i4], _, rfl⟩
  rintro e1 s2 ⟨rfl, ⟨i0, i2, i4⟩, n, hm2⟩
  have hend : ∀ st', DropW ⟨FM B sl st0 R, rw_⟩ (B.length + (R.length + 1)) rw_.length ⟨FM B sl st' R, rowsA rw_ n⟩ ⟨FM B sl st' R, rw_⟩ := fun st' => by
    have h := DropW.fm B sl st0 st' R [] rw_ rw_ (rowsA rw_ n) (Nat.le_refl _) (rowsA_take _ _) hs
    rwa [List.append_nil] at h
  have hkE : kindE e env st0 = (if e.k = 2 then (if e.s = qTrue ∨ e.s = qFalse then (2, F) else match look e.s env with
      | some t => (t, F)
      | none => (1, failF F 9 e.p))
    else if e.k = 4 then (2, F) else if e.k = 6 then ((if arith e.s then 1 else 2), F) else (1, F)) := by
    rw [← hF, show e = .mk e.k e.n e.s e.a e.p by cases e; rfl, kindE]; rfl
  by_cases k2 : e.k = 2
  · rw [if_pos k2] at hkE
    by_cases t1 : e.s = qTrue ∨ e.s = qFalse
    · rw [if_pos t1] at hkE
      rw [hkE]
      by_cases t2 : e.s = qTrue
      · have d1 : decide (e.s = ({ data := #[116, 114, 117, 101] } : Bytes)) = true := decide_eq_true t2
        refine TS.of [4] fun Q hQ => ?_
        simp only [go_sem, Nat.reduceEqDiff, Nat.reduceBEq, Int.reduceToNat, Int.reduceLT, Int.reduceLE, Int.reduceEq, Nat.reduceLeDiff, Nat.reduceLT, Nat.reduceMul, Nat.reduceAdd, String.reduceEq, i0, i2, i4, hm2, encE_eq, eq_true k2, d1]
        refine hQ .ret _ ?_; exact post_ret _ _ (ii 2) (by simp only [go_sem, Nat.reduceEqDiff, Nat.reduceBEq, Int.reduceToNat, Int.reduceLT, Int.reduceLE, Int.reduceEq, Nat.reduceLeDiff, Nat.reduceLT, Nat.reduceMul, Nat.reduceAdd, String.reduceEq]) rfl (hend F) ⟨rfl, rfl⟩
      · have d1 : decide (e.s = ({ data := #[116, 114, 117, 101] } : Bytes)) = false := decide_eq_false t2
        have d2 : decide (e.s = ({ data := #[102, 97, 108, 115, 101] } : Bytes)) = true := decide_eq_true (by rcases t1 with h | h; exact absurd h t2; exact h)
        refine TS.of [4] fun Q hQ => ?_
        simp only [go_sem, Nat.reduceEqDiff, Nat.reduceBEq, Int.reduceToNat, Int.reduceLT, Int.reduceLE, Int.reduceEq, Nat.reduceLeDiff, Nat.reduceLT, Nat.reduceMul, Nat.reduceAdd, String.reduceEq, i0, i2, i4, hm2, encE_eq, eq_true k2, d1, d2]
        refine hQ .ret _ ?_; exact post_ret _ _ (ii 2) (by simp only [go_sem, Nat.reduceEqDiff, Nat.reduceBEq, Int.reduceToNat, Int.reduceLT, Int.reduceLE, Int.reduceEq, Nat.reduceLeDiff, Nat.reduceLT, Nat.reduceMul, Nat.reduceAdd, String.reduceEq]) rfl (hend F) ⟨rfl, rfl⟩
    · rw [if_neg t1] at hkE
      have d1 : decide (e.s = ({ data := #[116, 114, 117, 101] } : Bytes)) = false := decide_eq_false fun h => t1 (.inl h)
      have d2 : decide (e.s = ({ data := #[102, 97, 108, 115, 101] } : Bytes)) = false := decide_eq_false fun h => t1 (.inr h)
      refine TS.seq (TS.seq (TS.of [4] fun Q hQ => ?_))
      simp only [go_sem, Nat.reduceEqDiff, Nat.reduceBEq, Int.reduceToNat, Int.reduceLT, Int.reduceLE, Int.reduceEq, Nat.reduceLeDiff, Nat.reduceLT, Nat.reduceMul, Nat.reduceAdd, String.reduceEq, i4, encE_eq]
      refine hQ .normal _ ?_; clear hQ Q
      refine TS.block (TS.seq (TS.of [4] fun Q hQ => ?_))
      simp only [go_sem, Nat.reduceEqDiff, Nat.reduceBEq, Int.reduceToNat, Int.reduceLT, Int.reduceLE, Int.reduceEq, Nat.reduceLeDiff, Nat.reduceLT, Nat.reduceMul, Nat.reduceAdd, String.reduceEq, eq_true k2]
      refine hQ .normal _ ?_; clear hQ Q
      refine TS.cond (t := true) (by simp only [go_sem, Nat.reduceEqDiff, Nat.reduceBEq, Int.reduceToNat, Int.reduceLT, Int.reduceLE, Int.reduceEq, Nat.reduceLeDiff, Nat.reduceLT, Nat.reduceMul, Nat.reduceAdd, String.reduceEq]) ?_
      refine TS.seq (TS.of [4] fun Q hQ => ?_)
      simp only [go_sem, Nat.reduceEqDiff, Nat.reduceBEq, Int.reduceToNat, Int.reduceLT, Int.reduceLE, Int.reduceEq, Nat.reduceLeDiff, Nat.reduceLT, Nat.reduceMul, Nat.reduceAdd, String.reduceEq, i4, encE_eq, d1, d2]
      refine hQ .normal _ ?_; clear hQ Q
      refine TS.seq (TS.seq (TS.of [4] fun Q hQ => ?_))
      simp only [go_sem, Nat.reduceEqDiff, Nat.reduceBEq, Int.reduceToNat, Int.reduceLT, Int.reduceLE, Int.reduceEq, Nat.reduceLeDiff, Nat.reduceLT, Nat.reduceMul, Nat.reduceAdd, String.reduceEq]
      refine hQ .normal _ ?_; clear hQ Q
      refine TS.block (TS.loop (α := Nat) (fun k => [(0, .ptr B.length 0), (2, slV env), (4, .ref (encE e)), (11, ii k)]) (fun _ => ⟨FM B sl F R, rowsA rw_ n⟩) (fun k => k ≤ env.length ∧ look e.s (env.drop k) = look e.s env) (fun k => env.length - k) 0 (by simp) ⟨by simp [Has, upd_apply, i0, i2, i4, encE_eq], hm2, by simp⟩ ?_)
      rintro k st hH hm ⟨hk, hlk⟩
      simp only [Has, List.mem_cons, List.not_mem_nil, or_false, forall_eq_or_imp, forall_eq] at hH; obtain ⟨j0, j2, j4, j11⟩ := hH
      by_cases hlt : k < env.length
      · obtain ⟨p, hp⟩ : ∃ p, env[k]? = some p := ⟨_, List.getElem?_eq_getElem hlt⟩
        have hdr : env.drop k = p :: env.drop (k + 1) := by rw [List.drop_eq_getElem_cons hlt]; congr 1; exact Option.some.inj ((List.getElem?_eq_getElem hlt).symm.trans hp)
        have hat := encV_at hp
        have hlt2 : k * 2 < (encV env).length := by rw [encV_len]; omega
        have hw := wrap_succ hlt (by omega)
        rw [hdr, look] at hlk
        by_cases hps : p.1 = e.s
        · rw [if_pos hps] at hlk
          rw [← hlk] at hkE
          dsimp only at hkE
          rw [hkE]
          refine TS.of [4] fun Q hQ => ?_
          simp only [go_sem, Nat.reduceEqDiff, Nat.reduceBEq, Int.reduceToNat, Int.reduceLT, Int.reduceLE, Int.reduceEq, Nat.reduceLeDiff, Nat.reduceLT, Nat.reduceMul, Nat.reduceAdd, String.reduceEq, j0, j2, j4, j11, hm, hlt]
          refine drn_of ⟨[], [], []⟩ [0, 0, 3, 7, 15, 0, 32, 127] (by kernel_rfl) ?_
          simp only [go_sem, Nat.reduceEqDiff, Nat.reduceBEq, Int.reduceToNat, Int.reduceLT, Int.reduceLE, Int.reduceEq, Nat.reduceLeDiff, Nat.reduceLT, Nat.reduceMul, Nat.reduceAdd, String.reduceEq, j0, j2, j4, j11, encE_eq, hlt, hat, hlt2, eq_true hps]
          refine hQ .ret _ ?_; exact post_ret _ _ (ii p.2) (by simp only [go_sem, Nat.reduceEqDiff, Nat.reduceBEq, Int.reduceToNat, Int.reduceLT, Int.reduceLE, Int.reduceEq, Nat.reduceLeDiff, Nat.reduceLT, Nat.reduceMul, Nat.reduceAdd, String.reduceEq]) rfl (hend F) ⟨rfl, rfl⟩
        · rw [if_neg hps] at hlk
          refine TS.of [4] fun Q hQ => ?_
          simp only [go_sem, Nat.reduceEqDiff, Nat.reduceBEq, Int.reduceToNat, Int.reduceLT, Int.reduceLE, Int.reduceEq, Nat.reduceLeDiff, Nat.reduceLT, Nat.reduceMul, Nat.reduceAdd, String.reduceEq, j0, j2, j4, j11, hm, hlt]
          refine drn_of ⟨[], [], []⟩ [0, 0, 3, 7, 15, 0, 32, 127] (by kernel_rfl) ?_
          simp only [go_sem, Nat.reduceEqDiff, Nat.reduceBEq, Int.reduceToNat, Int.reduceLT, Int.reduceLE, Int.reduceEq, Nat.reduceLeDiff, Nat.reduceLT, Nat.reduceMul, Nat.reduceAdd, String.reduceEq, j0, j2, j4, j11, encE_eq, hlt, hat, hlt2, eq_false hps, hw]
          refine hQ .normal _ ?_; clear hQ Q
          refine ⟨_, _, k + 1, DropW.refl _, ?_, ⟨hlt, hlk⟩, by omega⟩
          simp [upd_apply, j0, j2, j4, encE_eq, IV.np, npV, np_sh, npE, npEs, npL]
      · have hnone : look e.s env = none := by rw [← hlk, List.drop_eq_nil_of_le (by omega)]; rfl
        rw [hnone] at hkE
        dsimp only at hkE
        rw [hkE]
        refine TS.of [4] fun Q hQ => ?_
        simp only [go_sem, Nat.reduceEqDiff, Nat.reduceBEq, Int.reduceToNat, Int.reduceLT, Int.reduceLE, Int.reduceEq, Nat.reduceLeDiff, Nat.reduceLT, Nat.reduceMul, Nat.reduceAdd, String.reduceEq, j0, j2, j4, j11, hm, hlt]
        refine hQ (.exit 3) _ ?_; clear hQ Q
        have hf := (rfail_sim F 9 e.p).mem B R (rowsA rw_ n) sl (hmono _)
        refine TS.of [4] fun Q hQ => ?_
        simp only [go_sem, Nat.reduceEqDiff, Nat.reduceBEq, Int.reduceToNat, Int.reduceLT, Int.reduceLE, Int.reduceEq, Nat.reduceLeDiff, Nat.reduceLT, Nat.reduceMul, Nat.reduceAdd, String.reduceEq, j0, j4, encE_eq]
        refine cal_eq hf ?_
        simp only [go_sem, Nat.reduceEqDiff, Nat.reduceBEq, Int.reduceToNat, Int.reduceLT, Int.reduceLE, Int.reduceEq, Nat.reduceLeDiff, Nat.reduceLT, Nat.reduceMul, Nat.reduceAdd, String.reduceEq]
        refine hQ .ret _ ?_; exact post_ret _ _ (ii 1) (by simp only [go_sem, Nat.reduceEqDiff, Nat.reduceBEq, Int.reduceToNat, Int.reduceLT, Int.reduceLE, Int.reduceEq, Nat.reduceLeDiff, Nat.reduceLT, Nat.reduceMul, Nat.reduceAdd, String.reduceEq]) rfl (hend (failF F 9 e.p)) ⟨rfl, rfl⟩
  rw [if_neg k2] at hkE
  by_cases k4 : e.k = 4
  · rw [if_pos k4] at hkE
    rw [hkE]
    refine TS.of [4] fun Q hQ => ?_
    simp only [go_sem, Nat.reduceEqDiff, Nat.reduceBEq, Int.reduceToNat, Int.reduceLT, Int.reduceLE, Int.reduceEq, Nat.reduceLeDiff, Nat.reduceLT, Nat.reduceMul, Nat.reduceAdd, String.reduceEq, i0, i2, i4, hm2, encE_eq, eq_true k4, eq_false k2]
    refine hQ .ret _ ?_; exact post_ret _ _ (ii 2) (by simp only [go_sem, Nat.reduceEqDiff, Nat.reduceBEq, Int.reduceToNat, Int.reduceLT, Int.reduceLE, Int.reduceEq, Nat.reduceLeDiff, Nat.reduceLT, Nat.reduceMul, Nat.reduceAdd, String.reduceEq]) rfl (hend F) ⟨rfl, rfl⟩
  rw [if_neg k4] at hkE
  by_cases k6 : e.k = 6
  · rw [if_pos k6] at hkE
    by_cases a0 : e.s = qAdd
    · have d0 : decide (e.s = ({ data := #[43]} : Bytes)) = true := decide_eq_true a0
      have ha : arith e.s = true := by unfold arith; rw [a0]; rfl
      rw [ha, if_pos rfl] at hkE
      rw [hkE]
      refine TS.of [4] fun Q hQ => ?_
      simp only [go_sem, Nat.reduceEqDiff, Nat.reduceBEq, Int.reduceToNat, Int.reduceLT, Int.reduceLE, Int.reduceEq, Nat.reduceLeDiff, Nat.reduceLT, Nat.reduceMul, Nat.reduceAdd, String.reduceEq, i0, i2, i4, hm2, encE_eq, eq_true k6, eq_false k2, eq_false k4, d0]
      refine hQ .ret _ ?_; exact post_ret _ _ (ii 1) (by simp only [go_sem, Nat.reduceEqDiff, Nat.reduceBEq, Int.reduceToNat, Int.reduceLT, Int.reduceLE, Int.reduceEq, Nat.reduceLeDiff, Nat.reduceLT, Nat.reduceMul, Nat.reduceAdd, String.reduceEq]) rfl (hend F) ⟨rfl, rfl⟩
    have d0 : decide (e.s = ({ data := #[43]} : Bytes)) = false := decide_eq_false a0
    by_cases a1 : e.s = qSub
    · have d1 : decide (e.s = ({ data := #[45]} : Bytes)) = true := decide_eq_true a1
      have ha : arith e.s = true := by unfold arith; rw [a1]; rfl
      rw [ha, if_pos rfl] at hkE
      rw [hkE]
      refine TS.of [4] fun Q hQ => ?_
      simp only [go_sem, Nat.reduceEqDiff, Nat.reduceBEq, Int.reduceToNat, Int.reduceLT, Int.reduceLE, Int.reduceEq, Nat.reduceLeDiff, Nat.reduceLT, Nat.reduceMul, Nat.reduceAdd, String.reduceEq, i0, i2, i4, hm2, encE_eq, eq_true k6, eq_false k2, eq_false k4, d0, d1]
      refine hQ .ret _ ?_; exact post_ret _ _ (ii 1) (by simp only [go_sem, Nat.reduceEqDiff, Nat.reduceBEq, Int.reduceToNat, Int.reduceLT, Int.reduceLE, Int.reduceEq, Nat.reduceLeDiff, Nat.reduceLT, Nat.reduceMul, Nat.reduceAdd, String.reduceEq]) rfl (hend F) ⟨rfl, rfl⟩
    have d1 : decide (e.s = ({ data := #[45]} : Bytes)) = false := decide_eq_false a1
    by_cases a2 : e.s = qMul
    · have d2 : decide (e.s = ({ data := #[42]} : Bytes)) = true := decide_eq_true a2
      have ha : arith e.s = true := by unfold arith; rw [a2]; rfl
      rw [ha, if_pos rfl] at hkE
      rw [hkE]
      refine TS.of [4] fun Q hQ => ?_
      simp only [go_sem, Nat.reduceEqDiff, Nat.reduceBEq, Int.reduceToNat, Int.reduceLT, Int.reduceLE, Int.reduceEq, Nat.reduceLeDiff, Nat.reduceLT, Nat.reduceMul, Nat.reduceAdd, String.reduceEq, i0, i2, i4, hm2, encE_eq, eq_true k6, eq_false k2, eq_false k4, d0, d1, d2]
      refine hQ .ret _ ?_; exact post_ret _ _ (ii 1) (by simp only [go_sem, Nat.reduceEqDiff, Nat.reduceBEq, Int.reduceToNat, Int.reduceLT, Int.reduceLE, Int.reduceEq, Nat.reduceLeDiff, Nat.reduceLT, Nat.reduceMul, Nat.reduceAdd, String.reduceEq]) rfl (hend F) ⟨rfl, rfl⟩
    have d2 : decide (e.s = ({ data := #[42]} : Bytes)) = false := decide_eq_false a2
    by_cases a3 : e.s = qDiv
    · have d3 : decide (e.s = ({ data := #[47]} : Bytes)) = true := decide_eq_true a3
      have ha : arith e.s = true := by unfold arith; rw [a3]; rfl
      rw [ha, if_pos rfl] at hkE
      rw [hkE]
      refine TS.of [4] fun Q hQ => ?_
      simp only [go_sem, Nat.reduceEqDiff, Nat.reduceBEq, Int.reduceToNat, Int.reduceLT, Int.reduceLE, Int.reduceEq, Nat.reduceLeDiff, Nat.reduceLT, Nat.reduceMul, Nat.reduceAdd, String.reduceEq, i0, i2, i4, hm2, encE_eq, eq_true k6, eq_false k2, eq_false k4, d0, d1, d2, d3]
      refine hQ .ret _ ?_; exact post_ret _ _ (ii 1) (by simp only [go_sem, Nat.reduceEqDiff, Nat.reduceBEq, Int.reduceToNat, Int.reduceLT, Int.reduceLE, Int.reduceEq, Nat.reduceLeDiff, Nat.reduceLT, Nat.reduceMul, Nat.reduceAdd, String.reduceEq]) rfl (hend F) ⟨rfl, rfl⟩
    have d3 : decide (e.s = ({ data := #[47]} : Bytes)) = false := decide_eq_false a3
    by_cases a4 : e.s = qRem
    · have d4 : decide (e.s = ({ data := #[37]} : Bytes)) = true := decide_eq_true a4
      have ha : arith e.s = true := by unfold arith; rw [a4]; rfl
      rw [ha, if_pos rfl] at hkE
      rw [hkE]
      refine TS.of [4] fun Q hQ => ?_
      simp only [go_sem, Nat.reduceEqDiff, Nat.reduceBEq, Int.reduceToNat, Int.reduceLT, Int.reduceLE, Int.reduceEq, Nat.reduceLeDiff, Nat.reduceLT, Nat.reduceMul, Nat.reduceAdd, String.reduceEq, i0, i2, i4, hm2, encE_eq, eq_true k6, eq_false k2, eq_false k4, d0, d1, d2, d3, d4]
      refine hQ .ret _ ?_; exact post_ret _ _ (ii 1) (by simp only [go_sem, Nat.reduceEqDiff, Nat.reduceBEq, Int.reduceToNat, Int.reduceLT, Int.reduceLE, Int.reduceEq, Nat.reduceLeDiff, Nat.reduceLT, Nat.reduceMul, Nat.reduceAdd, String.reduceEq]) rfl (hend F) ⟨rfl, rfl⟩
    have d4 : decide (e.s = ({ data := #[37]} : Bytes)) = false := decide_eq_false a4
    have ha : arith e.s = false := by unfold arith; simp [a0, a1, a2, a3, a4]
    rw [ha, if_neg (by simp)] at hkE
    rw [hkE]
    refine TS.of [4] fun Q hQ => ?_
    simp only [go_sem, Nat.reduceEqDiff, Nat.reduceBEq, Int.reduceToNat, Int.reduceLT, Int.reduceLE, Int.reduceEq, Nat.reduceLeDiff, Nat.reduceLT, Nat.reduceMul, Nat.reduceAdd, String.reduceEq, i0, i2, i4, hm2, encE_eq, eq_true k6, eq_false k2, eq_false k4, d0, d1, d2, d3, d4]
    refine hQ .ret _ ?_; exact post_ret _ _ (ii 2) (by simp only [go_sem, Nat.reduceEqDiff, Nat.reduceBEq, Int.reduceToNat, Int.reduceLT, Int.reduceLE, Int.reduceEq, Nat.reduceLeDiff, Nat.reduceLT, Nat.reduceMul, Nat.reduceAdd, String.reduceEq]) rfl (hend F) ⟨rfl, rfl⟩
  · rw [if_neg k6] at hkE
    rw [hkE]
    refine TS.of [4] fun Q hQ => ?_
    simp only [go_sem, Nat.reduceEqDiff, Nat.reduceBEq, Int.reduceToNat, Int.reduceLT, Int.reduceLE, Int.reduceEq, Nat.reduceLeDiff, Nat.reduceLT, Nat.reduceMul, Nat.reduceAdd, String.reduceEq, i0, i2, i4, hm2, encE_eq, eq_false k4, eq_false k2, eq_false k6]
    refine hQ .ret _ ?_; exact post_ret _ _ (ii 1) (by simp only [go_sem, Nat.reduceEqDiff, Nat.reduceBEq, Int.reduceToNat, Int.reduceLT, Int.reduceLE, Int.reduceEq, Nat.reduceLeDiff, Nat.reduceLT, Nat.reduceMul, Nat.reduceAdd, String.reduceEq]) rfl (hend F) ⟨rfl, rfl⟩
theorem kind_all : ∀ N, N < 900000 → KC N := by
  intro N
  induction N using Nat.strongRecOn with
  | ind N ih => intro hN; exact kind_step hN fun M h => ih M h (by omega)
theorem kind_sim (e : Expr) (env : Env) (st : Int × Int) (h : szE e < 900000) (he : env.length < 900000) : SimF 77 [.agg (encE e), slV env] st (ii (kindE e env st).1) (kindE e env st).2 := kind_all _ h e env st (Nat.le_refl _) he
def needE (e : Expr) (want : Int) (env : Env) (st : Int × Int) : Int × Int := if (kindE e env st).1 = want then (kindE e env st).2 else failF (kindE e env st).2 10 e.p
set_option maxRecDepth 100000 in
set_option maxHeartbeats 4000000 in
theorem need_sim (e : Expr) (want : Int) (env : Env) (st : Int × Int) (h : szE e < 900000) (he : env.length < 900000) : SimF 50 [.agg (encE e), ii want, slV env] st (.tup []) (needE e want env st) := by
  intro B R rw_ sl hs
  have hk := (kind_sim e env st h he).mem B R rw_ sl hs
  rw [encE_eq] at hk
  have hv : needE e want env st = if (kindE e env st).1 = want then (kindE e env st).2 else failF (kindE e env st).2 10 e.p := rfl
  generalize kindE e env st = X at hk hv
  obtain ⟨t, s2⟩ := X
  dsimp only at hk hv
  refine Sim.ofS 18 [] Try.func50 rfl rfl rfl (by simp) fun wr => ?_
  simp only [go_sem, Nat.reduceEqDiff, Nat.reduceBEq, Int.reduceToNat, Int.reduceLT, Int.reduceLE, Int.reduceEq, Nat.reduceLeDiff, Nat.reduceLT, Nat.reduceMul, Nat.reduceAdd, String.reduceEq]
  by_cases ht : t = want
  · rw [if_pos ht] at hv
    rw [hv]
    refine TS.of [5] fun Q hQ => ?_
    simp only [go_sem, Nat.reduceEqDiff, Nat.reduceBEq, Int.reduceToNat, Int.reduceLT, Int.reduceLE, Int.reduceEq, Nat.reduceLeDiff, Nat.reduceLT, Nat.reduceMul, Nat.reduceAdd, String.reduceEq, encE_eq]
    refine cal_eq hk ?_
    simp only [go_sem, Nat.reduceEqDiff, Nat.reduceBEq, Int.reduceToNat, Int.reduceLT, Int.reduceLE, Int.reduceEq, Nat.reduceLeDiff, Nat.reduceLT, Nat.reduceMul, Nat.reduceAdd, String.reduceEq, eq_true ht]
    refine hQ .normal _ ?_
    exact post_end _ _ (.tup []) (by simp only [go_sem, Nat.reduceEqDiff, Nat.reduceBEq, Int.reduceToNat, Int.reduceLT, Int.reduceLE, Int.reduceEq, Nat.reduceLeDiff, Nat.reduceLT, Nat.reduceMul, Nat.reduceAdd, String.reduceEq]) rfl (DropW.fm0 B sl st s2 R rw_ hs) ⟨rfl, rfl⟩
  · rw [if_neg ht] at hv
    rw [hv]
    have hf := (rfail_sim s2 10 e.p).mem B R rw_ sl hs
    refine TS.of [5] fun Q hQ => ?_
    simp only [go_sem, Nat.reduceEqDiff, Nat.reduceBEq, Int.reduceToNat, Int.reduceLT, Int.reduceLE, Int.reduceEq, Nat.reduceLeDiff, Nat.reduceLT, Nat.reduceMul, Nat.reduceAdd, String.reduceEq, encE_eq]
    refine cal_eq hk ?_
    simp only [go_sem, Nat.reduceEqDiff, Nat.reduceBEq, Int.reduceToNat, Int.reduceLT, Int.reduceLE, Int.reduceEq, Nat.reduceLeDiff, Nat.reduceLT, Nat.reduceMul, Nat.reduceAdd, String.reduceEq, eq_false ht, encE_eq]
    refine cal_eq hf ?_
    simp only [go_sem, Nat.reduceEqDiff, Nat.reduceBEq, Int.reduceToNat, Int.reduceLT, Int.reduceLE, Int.reduceEq, Nat.reduceLeDiff, Nat.reduceLT, Nat.reduceMul, Nat.reduceAdd, String.reduceEq]
    refine hQ .normal _ ?_
    exact post_end _ _ (.tup []) (by simp only [go_sem, Nat.reduceEqDiff, Nat.reduceBEq, Int.reduceToNat, Int.reduceLT, Int.reduceLE, Int.reduceEq, Nat.reduceLeDiff, Nat.reduceLT, Nat.reduceMul, Nat.reduceAdd, String.reduceEq]) rfl (DropW.fm0 B sl st _ R rw_ hs) ⟨rfl, rfl⟩
end Go.Proofs.Ytphjldhdnmoolaa.A
/- The walks of some functions over the abstract machine. -/
namespace Go.Proofs.Ytphjldhdnmoolaa.A
open Go
/-! ref08: names that are declared -/
structure KS where
  dl : List Bytes
  ft : Int × Int
abbrev slD (r0 : Nat) (dl : List Bytes) : IV := .sl (accK r0 9 dl.length) dl.length (dl.map (IV.v <| .string ·))
def rowsK (b : List Nat) (n : Nat) (X : List Nat) : List Nat := if n = 0 then b else b ++ n :: X
theorem rowsK_app {b X : List Nat} {n : Nat} (h : n = 0 → X = []) (k : Nat) (hk : k ≠ 0) : app (rowsK b n X) 9 n k (accK b.length 9 n) = some (accK b.length 9 (n + k), rowsK b (n + k) X) := by
  unfold app rowsK accK
  rw [if_neg hk]
  by_cases h0 : n = 0
  · subst h0; rw [h rfl]; simp [hk]
  · simp [h0]
theorem slD_np {b X : List Nat} {dl : List Bytes} (no : Nat) : (slD b.length dl).np no (rowsK b dl.length X).length = true := by
  simp only [slD, IV.np, npS, Bool.and_true]
  unfold accK rowsK
  by_cases h : dl.length = 0
  · simp [h, SK.np]
  · simp [h, SK.np]
theorem DropW.fk (B : List IObj) (sl0 sl : IV) (st st' : Int × Int) (R X : List IObj) (R0 R1 R2 : List Nat) (h3 : R0.length ≤ R1.length) (h4 : R2.take R1.length = R1) (hs : ∀ no, sl.np no R1.length = true) : DropW ⟨FM B sl0 st R, R0⟩ (B.length + (R.length + 1)) R1.length ⟨FM B sl st' (R ++ X), R2⟩ ⟨FM B sl st' R, R1⟩ := by
  have h := DropW.fm B sl st st' R X R0 R1 R2 h3 h4 hs
  refine ⟨h.objs, h4.symm, by simp, h3, fun o x hx hl => ?_⟩
  simp only [FM] at hx
  by_cases h1 : o < B.length
  · left; rw [List.getElem?_append_left h1] at hx; simp only [FM]; rw [List.getElem?_append_left h1]; exact hx
  · rw [List.getElem?_append_right (by omega)] at hx
    generalize hk : o - B.length = k at hx
    match k, hx with
    | 0, hx => right; simp at hx; subst hx; simp [IObj.np, npL, IV.np, hs]
    | k + 1, hx =>
      left
      simp only [FM]
      rw [List.getElem?_append_right (by omega), hk]
      simp only [List.getElem?_cons_succ] at hx ⊢
      rw [List.getElem?_append_left (by omega)] at hx
      exact hx
theorem DropW.fk0 (B : List IObj) (sl0 sl : IV) (st st' : Int × Int) (R : List IObj) (R0 R1 R2 : List Nat) (h3 : R0.length ≤ R1.length) (h4 : R2.take R1.length = R1) (hs : ∀ no, sl.np no R1.length = true) : DropW ⟨FM B sl0 st R, R0⟩ (B.length + (R.length + 1)) R1.length ⟨FM B sl st' R, R2⟩ ⟨FM B sl st' R, R1⟩ := by
  have h := DropW.fk B sl0 sl st st' R [] R0 R1 R2 h3 h4 hs
  rwa [List.append_nil] at h
def SimK (f : FuncId) (args : List IV) (s : KS) (r : IV) (s' : KS) : Prop := ∀ (B R : List IObj) (b X : List Nat), (s.dl.length = 0 → X = []) → Sim f (.ptr B.length 0 :: args) ⟨FM B (slD b.length s.dl) s.ft R, rowsK b s.dl.length X⟩ (fun x m' => x = r ∧ m' = ⟨FM B (slD b.length s'.dl) s'.ft R, rowsK b s'.dl.length X⟩)
theorem SimK.mem {f : FuncId} {args : List IV} {s s' : KS} {r : IV} (h : SimK f args s r s') (B R : List IObj) (b X : List Nat) (hX : s.dl.length = 0 → X = []) : Sim f (.ptr B.length 0 :: args) ⟨FM B (slD b.length s.dl) s.ft R, rowsK b s.dl.length X⟩ (fun x m' => x = r ∧ m' = ⟨FM B (slD b.length s'.dl) s'.ft R, rowsK b s'.dl.length X⟩) := h B R b X hX
def memB (n : Bytes) (l : List Bytes) : Bool := l.any fun x => decide (x = n)
theorem memB_iff {n : Bytes} {l : List Bytes} : memB n l = true ↔ n ∈ l := by simp [memB]
def KS.declare (name : Bytes) (at_ : Int) (s : KS) : KS := if memB name s.dl then { s with ft := failF s.ft 9 at_ } else if 16 ≤ s.dl.length then { s with ft := failF s.ft 15 at_ } else { s with dl := s.dl ++ [name] }
theorem rowsK_le {b X : List Nat} {n k : Nat} (h : n = 0 → X = []) : (rowsK b n X).length ≤ (rowsK b (n + k) X).length := by
  unfold rowsK
  by_cases h0 : n = 0
  · rw [if_pos h0, h h0]; split <;> simp
  · rw [if_neg h0, if_neg (by omega)]; simp
set_option maxRecDepth 100000 in
set_option maxHeartbeats 4000000 in
theorem rdeclare_sim (name : Bytes) (at_ : Int) (s : KS) (hl : s.dl.length < 900000) : SimK 48 [ss name, ii at_] s (.tup []) (s.declare name at_) := by
  intro B R b X hX
  obtain ⟨dl, ft⟩ := s
  dsimp only at hl hX
  have hs := fun no => slD_np (b := b) (X := X) (dl := dl) no
  refine Sim.ofS 47 [] Try.func48 rfl rfl rfl (by simp) fun wr => ?_
  simp only [go_sem, Nat.reduceEqDiff, Nat.reduceBEq, Int.reduceToNat, Int.reduceLT, Int.reduceLE, Int.reduceEq, Nat.reduceLeDiff, Nat.reduceLT, Nat.reduceMul, Nat.reduceAdd, String.reduceEq]
  refine TS.seq (TS.seq (TS.of [] fun Q hQ => ?_))
  simp only [go_sem, Nat.reduceEqDiff, Nat.reduceBEq, Int.reduceToNat, Int.reduceLT, Int.reduceLE, Int.reduceEq, Nat.reduceLeDiff, Nat.reduceLT, Nat.reduceMul, Nat.reduceAdd, String.reduceEq]
  refine hQ .normal _ ?_; clear hQ Q
  refine TS.block (TS.loop (α := Nat) (fun k => [(0, .ptr B.length 0), (1, ss name), (2, ii at_), (6, ii k)]) (fun _ => ⟨FM B (slD b.length dl) ft R, rowsK b dl.length X⟩) (fun k => k ≤ dl.length ∧ (name ∈ dl.drop k ↔ name ∈ dl)) (fun k => dl.length - k) 0 (by simp) ⟨by simp [Has, upd_apply, argsT], rfl, by simp⟩ ?_)
  rintro k st hH hm ⟨hk, hin⟩
  simp only [Has, List.mem_cons, List.not_mem_nil, or_false, forall_eq_or_imp, forall_eq] at hH; obtain ⟨i0, i1, i2, i6⟩ := hH
  by_cases hlt : k < dl.length
  · obtain ⟨x, hx⟩ : ∃ x, dl.drop k = x :: dl.drop (k + 1) := ⟨_, List.drop_eq_getElem_cons hlt⟩
    have hat : (dl.map (IV.v <| .string ·)).drop k = ss x :: (dl.drop (k + 1)).map (IV.v <| .string ·) := by rw [← List.map_drop, hx]; rfl
    have hl1 : k < (dl.map (IV.v <| .string ·)).length := by rw [List.length_map]; exact hlt
    have hw := wrap_succ hlt (by omega)
    by_cases he : x = name
    · have hm1 : name ∈ dl := hin.1 (by rw [hx, he]; simp)
      have hv : KS.declare name at_ ⟨dl, ft⟩ = ⟨dl, failF ft 9 at_⟩ := by unfold KS.declare; rw [if_pos (memB_iff.2 hm1)]
      rw [hv]
      have hf := (rfail_sim ft 9 at_).mem B R (rowsK b dl.length X) (slD b.length dl) hs
      refine TS.of [] fun Q hQ => ?_
      simp only [go_sem, Nat.reduceEqDiff, Nat.reduceBEq, Int.reduceToNat, Int.reduceLT, Int.reduceLE, Int.reduceEq, Nat.reduceLeDiff, Nat.reduceLT, Nat.reduceMul, Nat.reduceAdd, String.reduceEq, i0, i1, i2, i6, hm, hlt, hat, hl1, eq_true he]
      refine cal_eq hf ?_
      simp only [go_sem, Nat.reduceEqDiff, Nat.reduceBEq, Int.reduceToNat, Int.reduceLT, Int.reduceLE, Int.reduceEq, Nat.reduceLeDiff, Nat.reduceLT, Nat.reduceMul, Nat.reduceAdd, String.reduceEq]
      refine hQ .ret _ ?_; exact post_ret _ _ (.tup []) (by simp only [go_sem, Nat.reduceEqDiff, Nat.reduceBEq, Int.reduceToNat, Int.reduceLT, Int.reduceLE, Int.reduceEq, Nat.reduceLeDiff, Nat.reduceLT, Nat.reduceMul, Nat.reduceAdd, String.reduceEq]) rfl (DropW.fm0 B _ _ _ R _ hs) ⟨rfl, rfl⟩
    · refine TS.of [] fun Q hQ => ?_
      simp only [go_sem, Nat.reduceEqDiff, Nat.reduceBEq, Int.reduceToNat, Int.reduceLT, Int.reduceLE, Int.reduceEq, Nat.reduceLeDiff, Nat.reduceLT, Nat.reduceMul, Nat.reduceAdd, String.reduceEq, i0, i1, i2, i6, hm, hlt, hat, hl1, eq_false he, hw]
      refine hQ .normal _ ?_; clear hQ Q
      refine ⟨_, _, k + 1, DropW.refl _, ?_, ⟨hlt, by rw [← hin, hx]; simp; intro h; exact absurd h.symm he⟩, by omega⟩
      simp [upd_apply, i0, i1, i2, IV.np]
  · have hnot : name ∉ dl := by rw [← hin, List.drop_eq_nil_of_le (by omega)]; simp
    refine TS.of [] fun Q hQ => ?_
    simp only [go_sem, Nat.reduceEqDiff, Nat.reduceBEq, Int.reduceToNat, Int.reduceLT, Int.reduceLE, Int.reduceEq, Nat.reduceLeDiff, Nat.reduceLT, Nat.reduceMul, Nat.reduceAdd, String.reduceEq, i0, i1, i2, i6, hm, hlt]
    refine hQ (.exit 0) _ ?_; clear hQ Q
    by_cases h16 : 16 ≤ dl.length
    · have h16' : (16 : Int) ≤ (dl.length : Int) := by omega
      have hv : KS.declare name at_ ⟨dl, ft⟩ = ⟨dl, failF ft 15 at_⟩ := by unfold KS.declare; rw [if_neg (fun h => hnot (memB_iff.1 h)), if_pos h16]
      rw [hv]
      have hf := (rfail_sim ft 15 at_).mem B R (rowsK b dl.length X) (slD b.length dl) hs
      refine TS.of [] fun Q hQ => ?_
      simp only [go_sem, Nat.reduceEqDiff, Nat.reduceBEq, Int.reduceToNat, Int.reduceLT, Int.reduceLE, Int.reduceEq, Nat.reduceLeDiff, Nat.reduceLT, Nat.reduceMul, Nat.reduceAdd, String.reduceEq, i0, i1, i2, h16']
      refine cal_eq hf ?_
      simp only [go_sem, Nat.reduceEqDiff, Nat.reduceBEq, Int.reduceToNat, Int.reduceLT, Int.reduceLE, Int.reduceEq, Nat.reduceLeDiff, Nat.reduceLT, Nat.reduceMul, Nat.reduceAdd, String.reduceEq]
      refine hQ .ret _ ?_; exact post_ret _ _ (.tup []) (by simp only [go_sem, Nat.reduceEqDiff, Nat.reduceBEq, Int.reduceToNat, Int.reduceLT, Int.reduceLE, Int.reduceEq, Nat.reduceLeDiff, Nat.reduceLT, Nat.reduceMul, Nat.reduceAdd, String.reduceEq]) rfl (DropW.fm0 B _ _ _ R _ hs) ⟨rfl, rfl⟩
    · have h16' : ¬ (16 : Int) ≤ (dl.length : Int) := by omega
      have hv : KS.declare name at_ ⟨dl, ft⟩ = ⟨dl ++ [name], ft⟩ := by unfold KS.declare; rw [if_neg (fun h => hnot (memB_iff.1 h)), if_neg h16]
      rw [hv]
      have happ := rowsK_app (b := b) (X := X) (n := dl.length) hX 1 (by decide)
      have hlen : (dl.map (IV.v <| .string ·)).length = dl.length := List.length_map ..
      have hbound : (dl.length + 1) * 16 ≤ 140737488355328 := by omega
      have hs2 := fun no => slD_np (b := b) (X := X) (dl := dl ++ [name]) no
      refine TS.of [] fun Q hQ => ?_
      simp only [go_sem, Nat.reduceEqDiff, Nat.reduceBEq, Int.reduceToNat, Int.reduceLT, Int.reduceLE, Int.reduceEq, Nat.reduceLeDiff, Nat.reduceLT, Nat.reduceMul, Nat.reduceAdd, String.reduceEq, i0, i1, i2, h16', happ, hlen, hbound]
      have e1 : (dl ++ [name]).length = dl.length + 1 := by simp
      have e2 : slD b.length (dl ++ [name]) = .sl (accK b.length 9 (dl.length + 1)) (dl.length + 1) (dl.map (IV.v <| .string ·) ++ [ss name]) := by simp [slD]
      have hD := DropW.fk0 B (slD b.length dl) (slD b.length (dl ++ [name])) ft ft R (rowsK b dl.length X) (rowsK b (dl ++ [name]).length X) (rowsK b (dl ++ [name]).length X) (by rw [e1]; exact rowsK_le hX) (by simp) hs2
      rw [e2, e1] at hD
      refine hQ .normal _ ?_
      exact post_end _ _ (.tup []) (by simp only [go_sem, Nat.reduceEqDiff, Nat.reduceBEq, Int.reduceToNat, Int.reduceLT, Int.reduceLE, Int.reduceEq, Nat.reduceLeDiff, Nat.reduceLT, Nat.reduceMul, Nat.reduceAdd, String.reduceEq]) rfl hD ⟨rfl, by dsimp only; rw [e2, e1]⟩
theorem declare_ne (name : Bytes) (at_ : Int) (s : KS) : (s.declare name at_).dl ≠ [] := by
  unfold KS.declare
  by_cases h : memB name s.dl = true
  · rw [if_pos h]; intro e; dsimp only at e; rw [e] at h; cases h
  · rw [if_neg h]
    by_cases h16 : 16 ≤ s.dl.length
    · rw [if_pos h16]; intro e; dsimp only at e; rw [e] at h16; simp at h16
    · rw [if_neg h16]; simp
theorem declare_len (name : Bytes) (at_ : Int) (s : KS) : s.dl.length ≤ (s.declare name at_).dl.length ∧ (s.declare name at_).dl.length ≤ s.dl.length + 1 := by
  unfold KS.declare; (repeat' split) <;> simp
end Go.Proofs.Ytphjldhdnmoolaa.A
/- The walks of some functions over the abstract machine. -/
namespace Go.Proofs.Ytphjldhdnmoolaa.A
open Go
/-! eval's statements -/
def RS.put (rs : RS) (s : Bytes) (v : Int) : RS := { rs with kn := (putM s v rs.kn rs.kc).1, kc := (putM s v rs.kn rs.kc).2 }
def chg (k a b : Int) (rs : RS) : RS :=
  if a < 0 ∨ 60 ≤ a then rs
  else if k = 2 then { rs with cs := rs.cs.set a.toNat b }
  else if k = 3 then { rs with cs := rs.cs.set a.toNat (w64 (getC rs.cs a + b)) }
  else if k = 4 then { rs with cs := rs.cs.set a.toNat (w64 (getC rs.cs a - b)) }
  else if b < 0 ∨ 60 ≤ b then rs
  else { rs with cs := (rs.cs.set a.toNat (getC rs.cs b)).set b.toNat (getC rs.cs a) }
theorem chg_len (k a b : Int) (rs : RS) : (chg k a b rs).cs.length = rs.cs.length := by
  unfold chg; (repeat' split) <;> simp
theorem DropW.rk (B : List IObj) (rs rs' : RS) (R X : List IObj) (R0 R1 R2 : List Nat) (h3 : R0.length ≤ R1.length) (h4 : R2.take R1.length = R1) : DropW ⟨RM B rs R, R0⟩ (B.length + (R.length + 2)) R1.length ⟨RM B rs' (R ++ X), R2⟩ ⟨RM B rs' R, R1⟩ := by
  refine ⟨?_, h4.symm, by simp, h3, fun o x hx hl => ?_⟩
  · simp only [RM]
    rw [List.take_append, List.take_of_length_le (by omega)]
    congr 1
    rw [show B.length + (R.length + 2) - B.length = R.length + 2 by omega]
    simp
  · simp only [RM] at hx
    by_cases h1 : o < B.length
    · left; rw [List.getElem?_append_left h1] at hx; simp only [RM]; rw [List.getElem?_append_left h1]; exact hx
    · rw [List.getElem?_append_right (by omega)] at hx
      generalize hk : o - B.length = k at hx
      match k, hx with
      | 0, hx => right; simp at hx; subst hx; rfl
      | 1, hx =>
        right; simp at hx; subst hx
        simp only [IObj.np, cellsR, npL, IV.np, Bool.true_and]
        rw [npL_app]
        all_goals first | exact np_ints _ _ _ | (simp [npL, IV.np]; done)
      | k + 2, hx =>
        left
        simp only [RM]
        rw [List.getElem?_append_right (by omega), hk]
        simp only [List.getElem?_cons_succ] at hx ⊢
        rw [List.getElem?_append_left (by omega)] at hx
        exact hx
theorem set_cells {cs : List Int} {i : Int} {v : Int} (h0 : 0 ≤ i) (h1 : i < 60) (hl : cs.length = 60) (a : IV) (t : List IV) : splice (a :: (cs.map (IV.v <| .int .i64 ·) ++ t)) (1 + i.toNat) [ii v] = a :: ((cs.set i.toNat v).map (IV.v <| .int .i64 ·) ++ t) := by
  have hi : i.toNat < (cs.map (IV.v <| .int .i64 ·)).length := by rw [List.length_map]; omega
  unfold splice
  rw [Nat.add_comm 1, List.take_succ_cons, List.length_singleton, List.drop_succ_cons, List.take_append_of_le_length (by omega), List.drop_append_of_le_length (by omega), List.map_set, List.set_eq_take_append_cons_drop, if_pos hi]
  simp
theorem set_cells' {cs : List Int} {i : Int} {v : Int} (h0 : 0 ≤ i) (h1 : i < 60) (hl : cs.length = 60) (a : IV) (t : List IV) : (a :: (cs.map (IV.v <| .int .i64 ·) ++ t)).take (1 + i.toNat) ++ ii v :: (cs.map (IV.v <| .int .i64 ·) ++ t).drop (1 + i.toNat) = a :: ((cs.set i.toNat v).map (IV.v <| .int .i64 ·) ++ t) := by
  rw [← set_cells h0 h1 hl a t]
  unfold splice
  rw [Nat.add_comm 1 i.toNat, List.length_singleton, List.drop_succ_cons, List.append_assoc]; rfl
theorem drop_cells' {cs : List Int} {i : Int} (h0 : 0 ≤ i) (h1 : i < 60) (hl : cs.length = 60) (a : IV) (t : List IV) : (a :: (cs.map (IV.v <| .int .i64 ·) ++ t)).drop (1 + i.toNat) = ii (getC cs i) :: ((cs.map (IV.v <| .int .i64 ·)) ++ t).drop (i.toNat + 1) := by
  rw [Nat.add_comm, List.drop_succ_cons, drop_cells h0 h1 hl t]
/-- Functions of a run that leave nothing. -/
def SimX (f : FuncId) (args : List IV) (rs rs' : RS) : Prop := ∀ (B R : List IObj) (rw_ : List Nat), Sim f (.ptr (B.length + 1) 0 :: args) ⟨RM B rs R, rw_⟩ (fun x m' => x = .tup [] ∧ m' = ⟨RM B rs' R, rw_⟩)
set_option maxRecDepth 100000 in
set_option maxHeartbeats 4000000 in
theorem change_sim {s : Stmt} {rs : RS} {x0 x1 : Expr} {l : List Expr} {a b : Int} (hx : s.x = x0 :: x1 :: l) (hsz : szT s < 900000) (h60 : rs.cs.length = 60) (ha : valE x0 rs = some a) (hb : valE x1 rs = some b) : SimX 88 [.agg (encT s)] rs (chg s.k a b rs) := by
  intro B R rw_
  have hz := szT_eq s
  rw [hx, szs, szs] at hz
  have h1 := value_sim (e := x0) (rs := rs) (by omega) h60 ha B R rw_
  have h2 := value_sim (e := x1) (rs := rs) (by omega) h60 hb B R rw_
  rw [encE_eq] at h1 h2
  have h1' : ∀ m : Mem, m = ⟨RM B rs R, rw_⟩ → Sim 61 [.ptr (B.length + 1) 0, .agg [ii x0.k, ii x0.n, ss x0.s, slE x0.a, ii x0.p]] m (fun x m' => x = ii a ∧ m' = m) := fun m e => by rw [e]; exact h1
  have h2' : ∀ m : Mem, m = ⟨RM B rs R, rw_⟩ → Sim 61 [.ptr (B.length + 1) 0, .agg [ii x1.k, ii x1.n, ss x1.s, slE x1.a, ii x1.p]] m (fun x m' => x = ii b ∧ m' = m) := fun m e => by rw [e]; exact h2
  have hes : encEs (x0 :: x1 :: l) = [ii x0.k, ii x0.n, ss x0.s, slE x0.a, ii x0.p] ++ ([ii x1.k, ii x1.n, ss x1.s, slE x1.a, ii x1.p] ++ encEs l) := by rw [encEs, encEs, encE_eq, encE_eq]
  have n0 : (0 : Int) < ((l.length + 1 + 1 : Nat) : Int) := by omega
  have n1 : (1 : Int) < ((l.length + 1 + 1 : Nat) : Int) := by omega
  have n5 : 5 < (encEs l).length + 1 + 1 + 1 + 1 + 1 + 1 + 1 + 1 + 1 + 1 := by omega
  refine Sim.ofS 71 [] Try.func88 rfl rfl rfl (by simp) fun wr => ?_
  simp only [go_sem, Nat.reduceEqDiff, Nat.reduceBEq, Int.reduceToNat, Int.reduceLT, Int.reduceLE, Int.reduceEq, Nat.reduceLeDiff, Nat.reduceLT, Nat.reduceMul, Nat.reduceAdd, String.reduceEq]
  refine TS.seq (TS.of [3] fun Q hQ => ?_)
  simp only [go_sem, Nat.reduceEqDiff, Nat.reduceBEq, Int.reduceToNat, Int.reduceLT, Int.reduceLE, Int.reduceEq, Nat.reduceLeDiff, Nat.reduceLT, Nat.reduceMul, Nat.reduceAdd, String.reduceEq, encT_eq, hx]
  refine hQ .normal _ ?_; clear hQ Q
  refine TS.seq (TS.of [3] fun Q hQ => ?_)
  simp only [go_sem, Nat.reduceEqDiff, Nat.reduceBEq, Int.reduceToNat, Int.reduceLT, Int.reduceLE, Int.reduceEq, Nat.reduceLeDiff, Nat.reduceLT, Nat.reduceMul, Nat.reduceAdd, String.reduceEq, encT_eq, hx]
  refine drn_of ⟨[], [], []⟩ [0, 0, 2, 6, 14, 31, 0, 0, 128, 384, 896, 2047, 4095, 8191] (by kernel_rfl) ?_
  simp only [go_sem, Nat.reduceEqDiff, Nat.reduceBEq, Int.reduceToNat, Int.reduceLT, Int.reduceLE, Int.reduceEq, Nat.reduceLeDiff, Nat.reduceLT, Nat.reduceMul, Nat.reduceAdd, String.reduceEq, encT_eq, hx, hes, n0, n1, n5, Nat.zero_lt_succ]
  refine cald_eq (h1' _ rfl) ?_
  simp only [go_sem, Nat.reduceEqDiff, Nat.reduceBEq, Int.reduceToNat, Int.reduceLT, Int.reduceLE, Int.reduceEq, Nat.reduceLeDiff, Nat.reduceLT, Nat.reduceMul, Nat.reduceAdd, String.reduceEq, encT_eq, hx, hes, n0, n1, n5, Nat.zero_lt_succ]
  refine cald_eq (h2' _ rfl) ?_
  simp only [go_sem, Nat.reduceEqDiff, Nat.reduceBEq, Int.reduceToNat, Int.reduceLT, Int.reduceLE, Int.reduceEq, Nat.reduceLeDiff, Nat.reduceLT, Nat.reduceMul, Nat.reduceAdd, String.reduceEq]
  refine hQ .normal _ ?_; clear hQ Q
  have hlt : B.length + 1 < (⟨RM B rs R, rw_⟩ : Mem).objs.length := by simp
  have hc := fun i => rcell_sim ⟨RM B rs R, rw_⟩ (B.length + 1) hlt i
  have hd := DropW.rk B rs rs R [] rw_ rw_ rw_ (Nat.le_refl _) (by simp)
  rw [List.append_nil] at hd
  refine TS.seq (TS.of [3] fun Q hQ => ?_)
  simp only [go_sem, Nat.reduceEqDiff, Nat.reduceBEq, Int.reduceToNat, Int.reduceLT, Int.reduceLE, Int.reduceEq, Nat.reduceLeDiff, Nat.reduceLT, Nat.reduceMul, Nat.reduceAdd, String.reduceEq]
  refine cal_eq (hc a) ?_
  simp only [go_sem, Nat.reduceEqDiff, Nat.reduceBEq, Int.reduceToNat, Int.reduceLT, Int.reduceLE, Int.reduceEq, Nat.reduceLeDiff, Nat.reduceLT, Nat.reduceMul, Nat.reduceAdd, String.reduceEq]
  refine hQ .normal _ ?_; clear hQ Q
  by_cases g : a < 0 ∨ 60 ≤ a
  · rw [if_pos g]
    refine TS.of [3] fun Q hQ => ?_
    simp only [go_sem, Nat.reduceEqDiff, Nat.reduceBEq, Int.reduceToNat, Int.reduceLT, Int.reduceLE, Int.reduceEq, Nat.reduceLeDiff, Nat.reduceLT, Nat.reduceMul, Nat.reduceAdd, String.reduceEq]
    refine hQ .normal _ ?_
    exact post_end _ _ (.tup []) (by simp only [go_sem, Nat.reduceEqDiff, Nat.reduceBEq, Int.reduceToNat, Int.reduceLT, Int.reduceLE, Int.reduceEq, Nat.reduceLeDiff, Nat.reduceLT, Nat.reduceMul, Nat.reduceAdd, String.reduceEq]) rfl hd ⟨rfl, by rw [chg, if_pos g]⟩
  rw [if_neg g]
  have ha0 : 0 ≤ a := by omega
  have ha1 : a < 60 := by omega
  have hsp := fun v a1 t => set_cells' (v := v) ha0 ha1 h60 a1 t
  have hdc := fun a1 t => drop_cells' ha0 ha1 h60 a1 t
  have hfit : 1 + a.toNat ≤ (rs.cs.map (IV.v <| .int .i64 ·)).length + 2 := by rw [List.length_map]; omega
  have hD := fun rs' => DropW.rk B rs rs' R [] rw_ rw_ rw_ (Nat.le_refl _) (by simp)
  simp only [List.append_nil] at hD
  by_cases k2 : s.k = 2
  · refine TS.of [3] fun Q hQ => ?_
    simp only [go_sem, Nat.reduceEqDiff, Nat.reduceBEq, Int.reduceToNat, Int.reduceLT, Int.reduceLE, Int.reduceEq, Nat.reduceLeDiff, Nat.reduceLT, Nat.reduceMul, Nat.reduceAdd, String.reduceEq, encT_eq, k2, hfit, hsp]
    refine hQ .normal _ ?_
    exact post_end _ _ (.tup []) (by simp only [go_sem, Nat.reduceEqDiff, Nat.reduceBEq, Int.reduceToNat, Int.reduceLT, Int.reduceLE, Int.reduceEq, Nat.reduceLeDiff, Nat.reduceLT, Nat.reduceMul, Nat.reduceAdd, String.reduceEq]) rfl (hD { rs with cs := rs.cs.set a.toNat b }) ⟨rfl, by rw [chg, if_neg g, if_pos k2]⟩
  by_cases k3 : s.k = 3
  · refine TS.of [3] fun Q hQ => ?_
    simp only [go_sem, Nat.reduceEqDiff, Nat.reduceBEq, Int.reduceToNat, Int.reduceLT, Int.reduceLE, Int.reduceEq, Nat.reduceLeDiff, Nat.reduceLT, Nat.reduceMul, Nat.reduceAdd, String.reduceEq, encT_eq, k3, hfit, hsp, hdc]
    refine hQ .normal _ ?_
    exact post_end _ _ (.tup []) (by simp only [go_sem, Nat.reduceEqDiff, Nat.reduceBEq, Int.reduceToNat, Int.reduceLT, Int.reduceLE, Int.reduceEq, Nat.reduceLeDiff, Nat.reduceLT, Nat.reduceMul, Nat.reduceAdd, String.reduceEq]) rfl (hD { rs with cs := rs.cs.set a.toNat (w64 (getC rs.cs a + b)) }) ⟨rfl, by rw [chg, if_neg g, if_neg k2, if_pos k3]⟩
  by_cases k4 : s.k = 4
  · refine TS.of [3] fun Q hQ => ?_
    simp only [go_sem, Nat.reduceEqDiff, Nat.reduceBEq, Int.reduceToNat, Int.reduceLT, Int.reduceLE, Int.reduceEq, Nat.reduceLeDiff, Nat.reduceLT, Nat.reduceMul, Nat.reduceAdd, String.reduceEq, encT_eq, k4, hfit, hsp, hdc]
    refine hQ .normal _ ?_
    exact post_end _ _ (.tup []) (by simp only [go_sem, Nat.reduceEqDiff, Nat.reduceBEq, Int.reduceToNat, Int.reduceLT, Int.reduceLE, Int.reduceEq, Nat.reduceLeDiff, Nat.reduceLT, Nat.reduceMul, Nat.reduceAdd, String.reduceEq]) rfl (hD { rs with cs := rs.cs.set a.toNat (w64 (getC rs.cs a - b)) }) ⟨rfl, by rw [chg, if_neg g, if_neg k2, if_neg k3, if_pos k4]⟩
  by_cases g2 : b < 0 ∨ 60 ≤ b
  · have hcb := fun m : Mem => fun (e : m = ⟨RM B rs R, rw_⟩) => (e ▸ hc b : Sim 100 [.ptr (B.length + 1) 0, ii b] m _)
    refine TS.of [3] fun Q hQ => ?_
    simp only [go_sem, Nat.reduceEqDiff, Nat.reduceBEq, Int.reduceToNat, Int.reduceLT, Int.reduceLE, Int.reduceEq, Nat.reduceLeDiff, Nat.reduceLT, Nat.reduceMul, Nat.reduceAdd, String.reduceEq, encT_eq, k2, k3, k4]
    refine cal_eq (hc b) ?_
    rw [if_pos g2]
    simp only [go_sem, Nat.reduceEqDiff, Nat.reduceBEq, Int.reduceToNat, Int.reduceLT, Int.reduceLE, Int.reduceEq, Nat.reduceLeDiff, Nat.reduceLT, Nat.reduceMul, Nat.reduceAdd, String.reduceEq]
    refine hQ .normal _ ?_
    exact post_end _ _ (.tup []) (by simp only [go_sem, Nat.reduceEqDiff, Nat.reduceBEq, Int.reduceToNat, Int.reduceLT, Int.reduceLE, Int.reduceEq, Nat.reduceLeDiff, Nat.reduceLT, Nat.reduceMul, Nat.reduceAdd, String.reduceEq]) rfl (hD rs) ⟨rfl, by rw [chg, if_neg g, if_neg k2, if_neg k3, if_neg k4, if_pos g2]⟩
  have hb0 : 0 ≤ b := by omega
  have hb1 : b < 60 := by omega
  have hdb := fun a1 t => drop_cells' hb0 hb1 h60 a1 t
  have hc2 : ∀ m : Mem, m = ⟨RM B rs R, rw_⟩ → Sim 100 [.ptr (B.length + 1) 0, ii b] m (fun r m' => r = .ptr (B.length + 1) (1 + b.toNat) ∧ m' = m) := fun m e => by rw [e]; have := hc b; rw [if_neg g2] at this; exact this
  refine TS.of [3] fun Q hQ => ?_
  simp only [go_sem, Nat.reduceEqDiff, Nat.reduceBEq, Int.reduceToNat, Int.reduceLT, Int.reduceLE, Int.reduceEq, Nat.reduceLeDiff, Nat.reduceLT, Nat.reduceMul, Nat.reduceAdd, String.reduceEq, encT_eq, k2, k3, k4]
  refine cal_eq (hc b) ?_
  rw [if_neg g2]
  simp only [go_sem, Nat.reduceEqDiff, Nat.reduceBEq, Int.reduceToNat, Int.reduceLT, Int.reduceLE, Int.reduceEq, Nat.reduceLeDiff, Nat.reduceLT, Nat.reduceMul, Nat.reduceAdd, String.reduceEq]
  refine drn_of ⟨[], [], []⟩ [0, 0, 0, 6, 0, 0, 62, 126, 254, 0, 512, 1536, 4095, 8191, 16383, 32767] (by kernel_rfl) ?_
  simp only [go_sem, Nat.reduceEqDiff, Nat.reduceBEq, Int.reduceToNat, Int.reduceLT, Int.reduceLE, Int.reduceEq, Nat.reduceLeDiff, Nat.reduceLT, Nat.reduceMul, Nat.reduceAdd, String.reduceEq]
  refine cald_eq (hc2 _ rfl) ?_
  simp only [go_sem, Nat.reduceEqDiff, Nat.reduceBEq, Int.reduceToNat, Int.reduceLT, Int.reduceLE, Int.reduceEq, Nat.reduceLeDiff, Nat.reduceLT, Nat.reduceMul, Nat.reduceAdd, String.reduceEq]
  refine cald_eq (hc2 _ rfl) ?_
  have h60' : (rs.cs.set a.toNat (getC rs.cs b)).length = 60 := by rw [List.length_set]; exact h60
  have hsp2 := fun v a1 t => set_cells' (v := v) hb0 hb1 h60' a1 t
  have hfit2 : 1 + b.toNat ≤ ((rs.cs.set a.toNat (getC rs.cs b)).map (IV.v <| .int .i64 ·)).length + 2 := by rw [List.length_map]; omega
  simp only [go_sem, Nat.reduceEqDiff, Nat.reduceBEq, Int.reduceToNat, Int.reduceLT, Int.reduceLE, Int.reduceEq, Nat.reduceLeDiff, Nat.reduceLT, Nat.reduceMul, Nat.reduceAdd, String.reduceEq, hfit, hsp, hdc, hdb, hsp2, hfit2]
  refine hQ .normal _ ?_
  exact post_end _ _ (.tup []) (by simp only [go_sem, Nat.reduceEqDiff, Nat.reduceBEq, Int.reduceToNat, Int.reduceLT, Int.reduceLE, Int.reduceEq, Nat.reduceLeDiff, Nat.reduceLT, Nat.reduceMul, Nat.reduceAdd, String.reduceEq]) rfl (hD { rs with cs := (rs.cs.set a.toNat (getC rs.cs b)).set b.toNat (getC rs.cs a) }) ⟨rfl, by rw [chg, if_neg g, if_neg k2, if_neg k3, if_neg k4, if_neg g2]⟩
mutual
def argT : Stmt → Prop
  | .mk k _ x n b e _ => (0 ≤ n ∧ n < 9223372036854775808) ∧ (k = 1 ∨ k = 6 → ∃ y l, x = y :: l) ∧ (¬ (k = 1 ∨ k = 6 ∨ k = 7 ∨ k = 8) → ∃ y z l, x = y :: z :: l) ∧ argTs b ∧ argTs e
def argTs : List Stmt → Prop
  | [] => True
  | s :: l => argT s ∧ argTs l
end
theorem argTs_at : ∀ {l : List Stmt} {k : Nat} {e : Stmt}, argTs l → l[k]? = some e → argT e
  | s :: l, 0, e, h, hk => by simp at hk; subst hk; exact h.1
  | s :: l, k + 1, e, h, hk => by simp at hk; exact argTs_at h.2 hk
def loopU (f : Int → RS → Option RS) : Nat → Int → RS → Option RS
  | 0, _, rs => some rs
  | n + 1, i, rs => (f i rs).bind (loopU f n (i + 1))
def loopDn (f : Int → RS → Option RS) : Nat → RS → Option RS
  | 0, rs => some rs
  | n + 1, rs => (f n rs).bind (loopDn f n)
mutual
def runS : Stmt → RS → Option RS
  | .mk k s x n b e _, rs =>
    if k = 1 then (valE (x.getD 0 E0) rs).map fun v => rs.put s v
    else if k = 6 then (valE (x.getD 0 E0) rs).bind fun v => if v = 0 then runB e rs else runB b rs
    else if k = 7 then loopU (fun i rs => runB b (rs.put s i)) n.toNat 0 rs
    else if k = 8 then loopDn (fun i rs => runB b (rs.put s i)) n.toNat rs
    else (valE (x.getD 0 E0) rs).bind fun a => (valE (x.getD 1 E0) rs).map fun c => chg k a c rs
def runB : List Stmt → RS → Option RS
  | [], rs => some rs
  | s :: l, rs => (runS s rs).bind (runB l)
end
theorem loopU_len {f : Int → RS → Option RS} (hf : ∀ i rs rs', f i rs = some rs' → rs'.cs.length = rs.cs.length) : ∀ (n : Nat) (i : Int) (rs rs' : RS), loopU f n i rs = some rs' → rs'.cs.length = rs.cs.length
  | 0, i, rs, rs', h => by simp only [loopU, Option.some.injEq] at h; rw [h]
  | n + 1, i, rs, rs', h => by
    simp only [loopU, Option.bind_eq_some_iff] at h
    obtain ⟨r, h1, h2⟩ := h
    rw [loopU_len hf n _ _ _ h2, hf _ _ _ h1]
theorem loopDn_len {f : Int → RS → Option RS} (hf : ∀ i rs rs', f i rs = some rs' → rs'.cs.length = rs.cs.length) : ∀ (n : Nat) (rs rs' : RS), loopDn f n rs = some rs' → rs'.cs.length = rs.cs.length
  | 0, rs, rs', h => by simp only [loopDn, Option.some.injEq] at h; rw [h]
  | n + 1, rs, rs', h => by
    simp only [loopDn, Option.bind_eq_some_iff] at h
    obtain ⟨r, h1, h2⟩ := h
    rw [loopDn_len hf n _ _ h2, hf _ _ _ h1]
mutual
theorem runS_len : ∀ (s : Stmt) (rs rs' : RS), runS s rs = some rs' → rs'.cs.length = rs.cs.length
  | .mk k s x n b e p, rs, rs', h => by
    have hb := fun rs rs' h => runB_len b rs rs' h
    have he := fun rs rs' h => runB_len e rs rs' h
    rw [runS] at h
    split at h
    · simp only [Option.map_eq_some_iff] at h; obtain ⟨v, _, rfl⟩ := h; rfl
    · split at h
      · simp only [Option.bind_eq_some_iff] at h; obtain ⟨v, _, h⟩ := h
        split at h
        · exact he _ _ h
        · exact hb _ _ h
      · split at h
        · exact loopU_len (f := fun i rs => runB b (rs.put s i)) (fun i r r' q => hb (r.put s i) r' q) _ _ _ _ h
        · split at h
          · exact loopDn_len (f := fun i rs => runB b (rs.put s i)) (fun i r r' q => hb (r.put s i) r' q) _ _ _ h
          · simp only [Option.bind_eq_some_iff, Option.map_eq_some_iff] at h; obtain ⟨v, _, w, _, rfl⟩ := h; exact chg_len _ _ _ _
theorem runB_len : ∀ (l : List Stmt) (rs rs' : RS), runB l rs = some rs' → rs'.cs.length = rs.cs.length
  | [], rs, rs', h => by simp only [runB, Option.some.injEq] at h; rw [h]
  | s :: l, rs, rs', h => by
    simp only [runB, Option.bind_eq_some_iff] at h
    obtain ⟨r, h1, h2⟩ := h
    rw [runB_len l _ _ h2, runS_len s _ _ h1]
end
end Go.Proofs.Ytphjldhdnmoolaa.A
/- The walks of some functions over the abstract machine. -/
namespace Go.Proofs.Ytphjldhdnmoolaa.A
open Go
/-! ref08: blocks -/
mutual
def stmtK : Stmt → Env → KS → Env × KS
  | .mk k s x n b e p, env, st =>
    if k = 1 then (env ++ [(s, (kindE (x.getD 0 E0) env st.ft).1)], KS.declare s p ⟨st.dl, (kindE (x.getD 0 E0) env st.ft).2⟩)
    else if k = 6 then (env, (blockK e env (blockK b env ⟨st.dl, needE (x.getD 0 E0) 2 env st.ft⟩).2).2)
    else if k = 7 ∨ k = 8 then (env, (blockK b (env ++ [(s, 1)]) (if 64 < n then ⟨(st.declare s p).dl, failF (st.declare s p).ft 11 p⟩ else st.declare s p)).2)
    else (env, ⟨st.dl, needE (x.getD 1 E0) 1 env (needE (x.getD 0 E0) 1 env st.ft)⟩)
def blockK : List Stmt → Env → KS → Env × KS
  | [], env, st => (env, st)
  | s :: l, env, st => blockK l (stmtK s env st).1 (stmtK s env st).2
end
def X1 (X : List Nat) (k : Nat) : List Nat := if k = 0 then X else X ++ [k]
theorem rowsK_len {b X : List Nat} {n : Nat} (h : n ≠ 0) : (rowsK b n X).length = b.length + 1 + X.length := by unfold rowsK; rw [if_neg h]; simp; omega
theorem app_copy {b X : List Nat} {n k : Nat} (hk : k ≠ 0 → n ≠ 0) : app (rowsK b n X) 95 0 k .full = some (accK (b.length + 1 + X.length) 95 k, rowsK b n (X1 X k)) := by
  unfold app accK X1
  by_cases h : k = 0
  · subst h; rfl
  · rw [if_neg h, if_neg h, if_neg h]
    have hn := hk h
    rw [rowsK_len hn, Nat.zero_add]
    congr 2
    unfold rowsK; rw [if_neg hn, if_neg hn]; simp
theorem app_grow {b X : List Nat} {n k : Nat} (hn : n ≠ 0) : app (rowsK b n (X1 X k)) 95 k 1 (accK (b.length + 1 + X.length) 95 k) = some (accK (b.length + 1 + X.length) 95 (k + 1), rowsK b n (X1 X (k + 1))) := by
  unfold app accK X1
  rw [if_neg (by decide), if_neg (by omega : ¬ k + 1 = 0), if_neg (by omega : ¬ k + 1 = 0)]
  by_cases h : k = 0
  · subst h
    rw [if_pos rfl, if_pos rfl]
    dsimp only
    rw [rowsK_len hn]
    congr 2
    unfold rowsK; rw [if_neg hn, if_neg hn]; simp
  · rw [if_neg h, if_neg h]
    dsimp only
    have e1 : rowsK b n (X ++ [k]) = (b ++ n :: X) ++ [k] := by unfold rowsK; rw [if_neg hn]; simp
    have e2 : rowsK b n (X ++ [k + 1]) = (b ++ n :: X) ++ [k + 1] := by unfold rowsK; rw [if_neg hn]; simp
    have e3 : (b ++ n :: X).length = b.length + 1 + X.length := by simp; omega
    rw [e1, e2, ← e3, if_pos (by simp)]
    simp
theorem rows_take {b X : List Nat} {n k : Nat} (hk : k ≠ 0 → n ≠ 0) : (rowsK b n (X1 X k)).take (rowsK b n X).length = rowsK b n X := by
  unfold X1
  by_cases h : k = 0
  · rw [if_pos h]; simp
  · rw [if_neg h]
    have hn := hk h
    have e1 : rowsK b n (X ++ [k]) = rowsK b n X ++ [k] := by unfold rowsK; rw [if_neg hn, if_neg hn]; simp
    rw [e1]; simp
theorem rows_le {b X : List Nat} {n n' k k' : Nat} (hn : n ≤ n') (hk : k ≤ k') (h0 : n = 0 → X1 X k = []) (h1 : k' ≠ 0 → n' ≠ 0) : (rowsK b n (X1 X k)).length ≤ (rowsK b n' (X1 X k')).length := by
  by_cases hz : n = 0
  · have := h0 hz
    rw [this]; unfold rowsK; rw [if_pos hz]; split <;> simp
  · rw [rowsK_len hz, rowsK_len (by omega)]
    unfold X1; (repeat' split) <;> simp <;> omega
abbrev slW (r0 : Nat) (E : Env) : IV := .sl (accK r0 95 E.length) E.length (encV E)
theorem declare_16 (name : Bytes) (at_ : Int) (s : KS) (h : s.dl.length ≤ 16) : (s.declare name at_).dl.length ≤ 16 := by
  unfold KS.declare; (repeat' split) <;> simp <;> omega
theorem argT_x {x : Stmt} (h : argT x) : (x.k = 1 ∨ x.k = 6 → ∃ y l, x.x = y :: l) ∧ (¬ (x.k = 1 ∨ x.k = 6 ∨ x.k = 7 ∨ x.k = 8) → ∃ y z l, x.x = y :: z :: l) ∧ argTs x.b ∧ argTs x.e := by cases x; exact h.2
theorem stmtK_eq (x : Stmt) (env : Env) (st : KS) : stmtK x env st = (if x.k = 1 then (env ++ [(x.s, (kindE (x.x.getD 0 E0) env st.ft).1)], KS.declare x.s x.p ⟨st.dl, (kindE (x.x.getD 0 E0) env st.ft).2⟩)
    else if x.k = 6 then (env, (blockK x.e env (blockK x.b env ⟨st.dl, needE (x.x.getD 0 E0) 2 env st.ft⟩).2).2)
    else if x.k = 7 ∨ x.k = 8 then (env, (blockK x.b (env ++ [(x.s, 1)]) (if 64 < x.n then ⟨(st.declare x.s x.p).dl, failF (st.declare x.s x.p).ft 11 x.p⟩ else st.declare x.s x.p)).2)
    else (env, ⟨st.dl, needE (x.x.getD 1 E0) 1 env (needE (x.x.getD 0 E0) 1 env st.ft)⟩)) := by cases x; rw [stmtK]; rfl
mutual
theorem stmtK_dl : ∀ (x : Stmt) (env : Env) (st : KS), st.dl.length ≤ (stmtK x env st).2.dl.length ∧ (st.dl.length ≤ 16 → (stmtK x env st).2.dl.length ≤ 16)
  | .mk k s x n b e p, env, st => by
    have hb := fun env st => blockK_dl b env st
    have he := fun env st => blockK_dl e env st
    rw [stmtK]
    by_cases k1 : k = 1
    · rw [if_pos k1]; exact ⟨(declare_len s p ⟨st.dl, (kindE (x.getD 0 E0) env st.ft).2⟩).1, fun h => declare_16 s p ⟨st.dl, (kindE (x.getD 0 E0) env st.ft).2⟩ h⟩
    rw [if_neg k1]
    by_cases k6 : k = 6
    · rw [if_pos k6]
      have h1 := hb env ⟨st.dl, needE (x.getD 0 E0) 2 env st.ft⟩
      have h2 := he env (blockK b env ⟨st.dl, needE (x.getD 0 E0) 2 env st.ft⟩).2
      exact ⟨Nat.le_trans h1.1 h2.1, fun h => h2.2 (h1.2 h)⟩
    rw [if_neg k6]
    by_cases k7 : k = 7 ∨ k = 8
    · rw [if_pos k7]
      have h0 := declare_len s p st
      have h3 := declare_16 s p st
      have h1 := hb (env ++ [(s, 1)]) (if 64 < n then ⟨(st.declare s p).dl, failF (st.declare s p).ft 11 p⟩ else st.declare s p)
      have h4 : (if 64 < n then (⟨(st.declare s p).dl, failF (st.declare s p).ft 11 p⟩ : KS) else st.declare s p).dl = (st.declare s p).dl := by split <;> rfl
      rw [h4] at h1
      exact ⟨Nat.le_trans h0.1 h1.1, fun h => h1.2 (h3 h)⟩
    · rw [if_neg k7]; exact ⟨Nat.le_refl _, fun h => h⟩
theorem blockK_dl : ∀ (l : List Stmt) (env : Env) (st : KS), st.dl.length ≤ (blockK l env st).2.dl.length ∧ (st.dl.length ≤ 16 → (blockK l env st).2.dl.length ≤ 16)
  | [], env, st => ⟨Nat.le_refl _, fun h => h⟩
  | s :: l, env, st => by
    have h1 := stmtK_dl s env st
    have h2 := blockK_dl l (stmtK s env st).1 (stmtK s env st).2
    rw [blockK]
    exact ⟨Nat.le_trans h1.1 h2.1, fun h => h2.2 (h1.2 h)⟩
end
end Go.Proofs.Ytphjldhdnmoolaa.A
/- The walks of some functions over the abstract machine. -/
namespace Go.Proofs.Ytphjldhdnmoolaa.A
open Go
/-! eval's round and block -/
theorem wrap_id {x : Int} (h0 : -9223372036854775808 ≤ x) (h1 : x < 9223372036854775808) : IntKind.i64.wrap x = x := by simp only [IntKind.wrap, IntKind.bits, IntKind.signed]; simp; omega
def EBC (N : Nat) : Prop := ∀ (l : List Stmt) (rs rs' : RS), szt l ≤ N → argTs l → rs.cs.length = 60 → runB l rs = some rs' → SimX 62 [slT l] rs rs'
def ERC (N : Nat) : Prop := ∀ (s : Stmt) (i : Int) (rs rs' : RS), szt s.b ≤ N → argTs s.b → rs.cs.length = 60 → runB s.b (rs.put s.s i) = some rs' → SimX 87 [.agg (encT s), ii i] rs rs'
set_option maxRecDepth 100000 in
set_option maxHeartbeats 4000000 in
theorem round_step {N : Nat} (ih : EBC N) : ERC N := by
  intro s i rs rs' hN ha h60 hr B R rw_
  have d61 := fun t => drop61 h60 t
  have hsub := ih s.b (rs.put s.s i) rs' hN ha h60 hr B R rw_
  have hput : (⟨RM B (rs.put s.s i) R, rw_⟩ : Mem) = ⟨B ++ (.map (encM (putM s.s i rs.kn rs.kc).1) (putM s.s i rs.kn rs.kc).2 :: .cells (cellsR B.length rs) :: R), rw_⟩ := rfl
  refine Sim.ofS 17 [] Try.func87 rfl rfl rfl (by simp) fun wr => ?_
  simp only [go_sem, Nat.reduceEqDiff, Nat.reduceBEq, Int.reduceToNat, Int.reduceLT, Int.reduceLE, Int.reduceEq, Nat.reduceLeDiff, Nat.reduceLT, Nat.reduceMul, Nat.reduceAdd, String.reduceEq]
  refine TS.of [4] fun Q hQ => ?_
  simp only [go_sem, Nat.reduceEqDiff, Nat.reduceBEq, Int.reduceToNat, Int.reduceLT, Int.reduceLE, Int.reduceEq, Nat.reduceLeDiff, Nat.reduceLT, Nat.reduceMul, Nat.reduceAdd, String.reduceEq, encT_eq]
  refine drn_of ⟨[], [], []⟩ [0, 1, 3, 7, 0, 16, 0, 127] (by kernel_rfl) ?_
  simp only [go_sem, Nat.reduceEqDiff, Nat.reduceBEq, Int.reduceToNat, Int.reduceLT, Int.reduceLE, Int.reduceEq, Nat.reduceLeDiff, Nat.reduceLT, Nat.reduceMul, Nat.reduceAdd, String.reduceEq, encT_eq, d61, Mem.map_, mlook_enc, mupd_enc]
  refine cal_eq hsub ?_
  simp only [go_sem, Nat.reduceEqDiff, Nat.reduceBEq, Int.reduceToNat, Int.reduceLT, Int.reduceLE, Int.reduceEq, Nat.reduceLeDiff, Nat.reduceLT, Nat.reduceMul, Nat.reduceAdd, String.reduceEq]
  refine hQ .normal _ ?_
  have hD := DropW.rk B rs rs' R [] rw_ rw_ rw_ (Nat.le_refl _) (by simp)
  rw [List.append_nil] at hD
  exact post_end _ _ (.tup []) (by simp only [go_sem, Nat.reduceEqDiff, Nat.reduceBEq, Int.reduceToNat, Int.reduceLT, Int.reduceLE, Int.reduceEq, Nat.reduceLeDiff, Nat.reduceLT, Nat.reduceMul, Nat.reduceAdd, String.reduceEq]) rfl hD ⟨rfl, rfl⟩
theorem npT_sh (x : Stmt) : (encT x).map IV.sh = encT x := by rw [encT_eq]; rfl
set_option maxRecDepth 100000 in
set_option maxHeartbeats 4000000 in
theorem eblock_step {N : Nat} (hNb : N < 900000) (ihB : ∀ M, M < N → EBC M) (ihR : ∀ M, M < N → ERC M) : EBC N := by
  intro l rs rs' hN harg h60 hrun B R rw_
  have hll := szt_len l
  have hD := fun rs1 rs2 X => DropW.rk B rs1 rs2 R X rw_ rw_ rw_ (Nat.le_refl _) (by simp)
  have hD0 := fun rs1 rs2 => DropW.rk B rs1 rs2 R [] rw_ rw_ rw_ (Nat.le_refl _) (by simp)
  simp only [List.append_nil] at hD0
  refine Sim.ofS 76 [] Try.func62 rfl rfl rfl (by simp) fun wr => ?_
  simp only [go_sem, Nat.reduceEqDiff, Nat.reduceBEq, Int.reduceToNat, Int.reduceLT, Int.reduceLE, Int.reduceEq, Nat.reduceLeDiff, Nat.reduceLT, Nat.reduceMul, Nat.reduceAdd, String.reduceEq]
  refine TS.seq (TS.of [] fun Q hQ => ?_)
  simp only [go_sem, Nat.reduceEqDiff, Nat.reduceBEq, Int.reduceToNat, Int.reduceLT, Int.reduceLE, Int.reduceEq, Nat.reduceLeDiff, Nat.reduceLT, Nat.reduceMul, Nat.reduceAdd, String.reduceEq]
  refine hQ .normal _ ?_; clear hQ Q
  refine TS.block (TS.loop (α := Nat × RS) (fun x => [(0, .ptr (B.length + 1) 0), (8, slT l), (9, ii l.length), (10, ii x.1)]) (fun x => ⟨RM B x.2 R, rw_⟩) (fun x => x.1 ≤ l.length ∧ x.2.cs.length = 60 ∧ runB (l.drop x.1) x.2 = some rs') (fun x => l.length - x.1) (0, rs) (by simp) ⟨by simp [Has, upd_apply, argsT], rfl, by simp [h60, hrun]⟩ ?_)
  rintro ⟨k, r⟩ st hH hm ⟨hk, hr60, hrest⟩
  dsimp only at hH hm hk hr60 hrest
  simp only [Has, List.mem_cons, List.not_mem_nil, or_false, forall_eq_or_imp, forall_eq] at hH; obtain ⟨i0, i8, i9, i10⟩ := hH
  by_cases hlt : k < l.length
  · obtain ⟨x, hx⟩ : ∃ x, l[k]? = some x := ⟨_, List.getElem?_eq_getElem hlt⟩
    have hdr : l.drop k = x :: l.drop (k + 1) := by rw [List.drop_eq_getElem_cons hlt]; congr 1; exact Option.some.inj ((List.getElem?_eq_getElem hlt).symm.trans hx)
    have hat := encTs_at hx
    have hlt7 : k * 7 < (encTs l).length := by rw [encTs_length]; omega
    have hw := wrap_succ hlt (by omega)
    have hszx := szT_at hx
    have hax := argTs_at harg hx
    have hxsz := szT_eq x
    rw [hdr, runB, Option.bind_eq_some_iff] at hrest
    obtain ⟨r1, hr1, hrest⟩ := hrest
    have hr1l : r1.cs.length = 60 := by rw [runS_len _ _ _ hr1]; exact hr60
    obtain ⟨⟨hn0, hn1⟩, hs1, hs2, hab, hae⟩ : (0 ≤ x.n ∧ x.n < 9223372036854775808) ∧ (x.k = 1 ∨ x.k = 6 → ∃ y l, x.x = y :: l) ∧ (¬ (x.k = 1 ∨ x.k = 6 ∨ x.k = 7 ∨ x.k = 8) → ∃ y z l, x.x = y :: z :: l) ∧ argTs x.b ∧ argTs x.e := by cases x; exact hax
    rw [show x = .mk x.k x.s x.x x.n x.b x.e x.p by cases x; rfl, runS] at hr1
    have d61 := fun t => drop61 hr60 t
    refine TS.seq (TS.of [] fun Q hQ => ?_)
    simp only [go_sem, Nat.reduceEqDiff, Nat.reduceBEq, Int.reduceToNat, Int.reduceLT, Int.reduceLE, Int.reduceEq, Nat.reduceLeDiff, Nat.reduceLT, Nat.reduceMul, Nat.reduceAdd, String.reduceEq, i0, i8, i9, i10, hm, hlt]
    refine hQ .normal _ ?_; clear hQ Q
    refine TS.seq (TS.of [] fun Q hQ => ?_)
    simp only [go_sem, Nat.reduceEqDiff, Nat.reduceBEq, Int.reduceToNat, Int.reduceLT, Int.reduceLE, Int.reduceEq, Nat.reduceLeDiff, Nat.reduceLT, Nat.reduceMul, Nat.reduceAdd, String.reduceEq]
    refine hQ .normal _ ?_; clear hQ Q
    refine TS.seq (TS.mono (Q := fun e1 s => e1 = .normal ∧ (s.t 0 = .ptr (B.length + 1) 0 ∧ s.t 8 = slT l ∧ s.t 9 = ii l.length ∧ s.t 10 = ii k) ∧ s.m = ⟨RM B r1 (R ++ [.cells (encT x)]), rw_⟩) ?_ ?_)
    · refine TS.block (TS.seq (TS.of [] fun Q hQ => ?_))
      simp only [go_sem, Nat.reduceEqDiff, Nat.reduceBEq, Int.reduceToNat, Int.reduceLT, Int.reduceLE, Int.reduceEq, Nat.reduceLeDiff, Nat.reduceLT, Nat.reduceMul, Nat.reduceAdd, String.reduceEq, i0, i8, i9, i10, hlt, hat, hlt7]
      refine hQ .normal _ ?_; clear hQ Q
      refine TS.seq (TS.of [] fun Q hQ => ?_)
      simp only [go_sem, Nat.reduceEqDiff, Nat.reduceBEq, Int.reduceToNat, Int.reduceLT, Int.reduceLE, Int.reduceEq, Nat.reduceLeDiff, Nat.reduceLT, Nat.reduceMul, Nat.reduceAdd, String.reduceEq, i0, i8, i9, i10]
      refine hQ .normal _ ?_; clear hQ Q
      have hval : ∀ (y : Expr) (v : Int), szE y ≤ szs x.x → valE y r = some v → Sim 61 [.ptr (B.length + 1) 0, .agg [ii y.k, ii y.n, ss y.s, slE y.a, ii y.p]] ⟨RM B r (R ++ [.cells (encT x)]), rw_⟩ (fun z m' => z = ii v ∧ m' = ⟨RM B r (R ++ [.cells (encT x)]), rw_⟩) := fun y v hy hv => by
        have := value_sim (e := y) (rs := r) (by omega) hr60 hv B (R ++ [.cells (encT x)]) rw_
        rwa [encE_eq] at this
      have hes : ∀ (y : Expr) (ly : List Expr), encEs (y :: ly) = [ii y.k, ii y.n, ss y.s, slE y.a, ii y.p] ++ encEs ly := fun y ly => by rw [encEs, encE_eq]
      refine TS.block ?_
      by_cases k1 : x.k = 1
      · rw [if_pos k1] at hr1
        obtain ⟨y, ly, hxx⟩ := hs1 (.inl k1)
        rw [hxx, List.getD_cons_zero, Option.map_eq_some_iff] at hr1
        obtain ⟨v, hv, rfl⟩ := hr1
        have hsub := hval y v (by rw [hxx, szs]; omega) hv
        have hob : encT x = [ii x.k, ss x.s, .sl .sh (ly.length + 1) (ii y.k :: ii y.n :: ss y.s :: slE y.a :: ii y.p :: encEs ly), ii x.n, slT x.b, slT x.e, ii x.p] := by rw [encT_eq, hxx]; simp only [slE, hes, List.length_cons, List.cons_append, List.nil_append]
        rw [hob] at hsub
        have n0 : (0 : Int) < ((ly.length + 1 : Nat) : Int) := by omega
        refine TS.of [] fun Q hQ => ?_
        simp only [go_sem, Nat.reduceEqDiff, Nat.reduceBEq, Int.reduceToNat, Int.reduceLT, Int.reduceLE, Int.reduceEq, Nat.reduceLeDiff, Nat.reduceLT, Nat.reduceMul, Nat.reduceAdd, String.reduceEq, eq_true k1, hxx, hes]
        refine drn_of ⟨[], [], []⟩ [0, 1, 3, 7, 0, 16, 0, 0, 128, 384, 896, 1984, 4095] (by kernel_rfl) ?_
        simp only [go_sem, Nat.reduceEqDiff, Nat.reduceBEq, Int.reduceToNat, Int.reduceLT, Int.reduceLE, Int.reduceEq, Nat.reduceLeDiff, Nat.reduceLT, Nat.reduceMul, Nat.reduceAdd, String.reduceEq, i0, hxx, hes, d61, n0, Nat.zero_lt_succ]
        refine cald_eq hsub ?_
        simp only [go_sem, Nat.reduceEqDiff, Nat.reduceBEq, Int.reduceToNat, Int.reduceLT, Int.reduceLE, Int.reduceEq, Nat.reduceLeDiff, Nat.reduceLT, Nat.reduceMul, Nat.reduceAdd, String.reduceEq, Mem.map_, mlook_enc, mupd_enc]
        refine hQ .normal _ ?_; clear hQ Q
        refine ⟨rfl, ?_, ?_⟩
        · simp [upd_apply, i0, i8, i9, i10]
        · rw [hob]; rfl
      rw [if_neg k1] at hr1
      by_cases k6 : x.k = 6
      · rw [if_pos k6] at hr1
        obtain ⟨y, ly, hxx⟩ := hs1 (.inr k6)
        rw [hxx, List.getD_cons_zero, Option.bind_eq_some_iff] at hr1
        obtain ⟨v, hv, hr1⟩ := hr1
        have hsub := hval y v (by rw [hxx, szs]; omega) hv
        have hob : encT x = [ii x.k, ss x.s, .sl .sh (ly.length + 1) (ii y.k :: ii y.n :: ss y.s :: slE y.a :: ii y.p :: encEs ly), ii x.n, slT x.b, slT x.e, ii x.p] := by rw [encT_eq, hxx]; simp only [slE, hes, List.length_cons, List.cons_append, List.nil_append]
        rw [hob] at hsub
        have n0 : (0 : Int) < ((ly.length + 1 : Nat) : Int) := by omega
        by_cases v0 : v = 0
        · rw [if_pos v0] at hr1
          have hb := ihB (szt x.e) (by omega) x.e r r1 (Nat.le_refl _) hae hr60 hr1 B (R ++ [.cells (encT x)]) rw_
          rw [hob] at hb
          refine TS.of [] fun Q hQ => ?_
          simp only [go_sem, Nat.reduceEqDiff, Nat.reduceBEq, Int.reduceToNat, Int.reduceLT, Int.reduceLE, Int.reduceEq, Nat.reduceLeDiff, Nat.reduceLT, Nat.reduceMul, Nat.reduceAdd, String.reduceEq, eq_false k1, eq_true k6, hxx, hes, i0, n0, Nat.zero_lt_succ]
          refine cal_eq hsub ?_
          simp only [go_sem, Nat.reduceEqDiff, Nat.reduceBEq, Int.reduceToNat, Int.reduceLT, Int.reduceLE, Int.reduceEq, Nat.reduceLeDiff, Nat.reduceLT, Nat.reduceMul, Nat.reduceAdd, String.reduceEq, v0, i0, hxx, hes]
          refine cal_eq hb ?_
          simp only [go_sem, Nat.reduceEqDiff, Nat.reduceBEq, Int.reduceToNat, Int.reduceLT, Int.reduceLE, Int.reduceEq, Nat.reduceLeDiff, Nat.reduceLT, Nat.reduceMul, Nat.reduceAdd, String.reduceEq]
          refine hQ .normal _ ?_; clear hQ Q
          refine ⟨rfl, ?_, ?_⟩
          · simp [upd_apply, i0, i8, i9, i10]
          · rw [hob]
        · rw [if_neg v0] at hr1
          have hb := ihB (szt x.b) (by omega) x.b r r1 (Nat.le_refl _) hab hr60 hr1 B (R ++ [.cells (encT x)]) rw_
          rw [hob] at hb
          refine TS.of [] fun Q hQ => ?_
          simp only [go_sem, Nat.reduceEqDiff, Nat.reduceBEq, Int.reduceToNat, Int.reduceLT, Int.reduceLE, Int.reduceEq, Nat.reduceLeDiff, Nat.reduceLT, Nat.reduceMul, Nat.reduceAdd, String.reduceEq, eq_false k1, eq_true k6, hxx, hes, i0, n0, Nat.zero_lt_succ]
          refine cal_eq hsub ?_
          simp only [go_sem, Nat.reduceEqDiff, Nat.reduceBEq, Int.reduceToNat, Int.reduceLT, Int.reduceLE, Int.reduceEq, Nat.reduceLeDiff, Nat.reduceLT, Nat.reduceMul, Nat.reduceAdd, String.reduceEq, v0, i0, hxx, hes]
          refine cal_eq hb ?_
          simp only [go_sem, Nat.reduceEqDiff, Nat.reduceBEq, Int.reduceToNat, Int.reduceLT, Int.reduceLE, Int.reduceEq, Nat.reduceLeDiff, Nat.reduceLT, Nat.reduceMul, Nat.reduceAdd, String.reduceEq]
          refine hQ .normal _ ?_; clear hQ Q
          refine ⟨rfl, ?_, ?_⟩
          · simp [upd_apply, i0, i8, i9, i10]
          · rw [hob]
      rw [if_neg k6] at hr1
      have hDx := fun ra rb => DropW.rk B ra rb (R ++ [.cells (encT x)]) [] rw_ rw_ rw_ (Nat.le_refl _) (by simp)
      simp only [List.append_nil] at hDx
      by_cases k7 : x.k = 7
      · rw [if_pos k7] at hr1
        refine TS.seq (TS.of [] fun Q hQ => ?_)
        simp only [go_sem, Nat.reduceEqDiff, Nat.reduceBEq, Int.reduceToNat, Int.reduceLT, Int.reduceLE, Int.reduceEq, Nat.reduceLeDiff, Nat.reduceLT, Nat.reduceMul, Nat.reduceAdd, String.reduceEq, eq_false k1]
        refine hQ .normal _ ?_; clear hQ Q
        refine TS.cond (t := false) (by simp only [go_sem, Nat.reduceEqDiff, Nat.reduceBEq, Int.reduceToNat, Int.reduceLT, Int.reduceLE, Int.reduceEq, Nat.reduceLeDiff, Nat.reduceLT, Nat.reduceMul, Nat.reduceAdd, String.reduceEq]) ?_
        refine TS.seq (TS.of [] fun Q hQ => ?_)
        simp only [go_sem, Nat.reduceEqDiff, Nat.reduceBEq, Int.reduceToNat, Int.reduceLT, Int.reduceLE, Int.reduceEq, Nat.reduceLeDiff, Nat.reduceLT, Nat.reduceMul, Nat.reduceAdd, String.reduceEq, eq_false k6]
        refine hQ .normal _ ?_; clear hQ Q
        refine TS.cond (t := false) (by simp only [go_sem, Nat.reduceEqDiff, Nat.reduceBEq, Int.reduceToNat, Int.reduceLT, Int.reduceLE, Int.reduceEq, Nat.reduceLeDiff, Nat.reduceLT, Nat.reduceMul, Nat.reduceAdd, String.reduceEq]) ?_
        refine TS.seq (TS.mono (Q := fun e1 s => e1 = .normal ∧ (s.t 0 = .ptr (B.length + 1) 0 ∧ s.t 5 = .ptr (B.length + (R.length + 1 + 1)) 0 ∧ s.t 8 = slT l ∧ s.t 9 = ii l.length ∧ s.t 10 = ii k ∧ s.t 50 = bb true) ∧ s.m = ⟨RM B r (R ++ [.cells (encT x)]), rw_⟩) ?_ ?_)
        · refine TS.of [] fun Q hQ => ?_
          simp only [go_sem, Nat.reduceEqDiff, Nat.reduceBEq, Int.reduceToNat, Int.reduceLT, Int.reduceLE, Int.reduceEq, Nat.reduceLeDiff, Nat.reduceLT, Nat.reduceMul, Nat.reduceAdd, String.reduceEq, eq_true k7]
          refine hQ .normal _ ?_; clear hQ Q
          refine ⟨rfl, ?_, by rw [encT_eq]⟩
          simp [upd_apply, i0, i8, i9, i10]
        rintro e1 s1 ⟨rfl, ⟨i0, i5, i8, i9, i10, i50⟩, hm1⟩
        refine TS.cond (t := true) (by simp only [go_sem, Nat.reduceEqDiff, Nat.reduceBEq, Int.reduceToNat, Int.reduceLT, Int.reduceLE, Int.reduceEq, Nat.reduceLeDiff, Nat.reduceLT, Nat.reduceMul, Nat.reduceAdd, String.reduceEq, i50]) ?_
        refine TS.seq (TS.of [] fun Q hQ => ?_)
        simp only [go_sem, Nat.reduceEqDiff, Nat.reduceBEq, Int.reduceToNat, Int.reduceLT, Int.reduceLE, Int.reduceEq, Nat.reduceLeDiff, Nat.reduceLT, Nat.reduceMul, Nat.reduceAdd, String.reduceEq, hm1, i0, i5, encT_eq]
        refine hQ .normal _ ?_; clear hQ Q
        refine TS.block (TS.loop (α := Nat × RS) (fun y => [(0, .ptr (B.length + 1) 0), (5, .ptr (B.length + (R.length + 1 + 1)) 0), (8, slT l), (9, ii l.length), (10, ii k), (53, ii x.n), (54, ii y.1)]) (fun y => ⟨RM B y.2 (R ++ [.cells (encT x)]), rw_⟩) (fun y => y.1 ≤ x.n.toNat ∧ y.2.cs.length = 60 ∧ loopU (fun i rs => runB x.b (rs.put x.s i)) (x.n.toNat - y.1) y.1 y.2 = some r1) (fun y => x.n.toNat - y.1) (0, r) (by simp) ⟨by simp [Has, upd_apply, i0, i5, i8, i9, i10], by rw [encT_eq], by simp [hr60, hr1]⟩ ?_)
        rintro ⟨j, rj⟩ s2 hH hm2 ⟨hj, hj60, hjr⟩
        dsimp only at hH hm2 hj hj60 hjr
        simp only [Has, List.mem_cons, List.not_mem_nil, or_false, forall_eq_or_imp, forall_eq] at hH; obtain ⟨j0, j5, j8, j9, j10, j53, j54⟩ := hH
        by_cases hjl : (j : Int) < x.n
        · have hjn : x.n.toNat - j = (x.n.toNat - j - 1) + 1 := by omega
          rw [hjn, loopU, Option.bind_eq_some_iff] at hjr
          obtain ⟨r2, hr2, hjr⟩ := hjr
          have hsub := ihR (szt x.b) (by omega) x j rj r2 (Nat.le_refl _) hab hj60 hr2 B (R ++ [.cells (encT x)]) rw_
          rw [encT_eq] at hsub
          have hwj : IntKind.i64.wrap ((j : Int) + 1) = ((j + 1 : Nat) : Int) := by rw [wrap_id (by omega) (by omega)]; omega
          refine TS.of [] fun Q hQ => ?_
          simp only [go_sem, Nat.reduceEqDiff, Nat.reduceBEq, Int.reduceToNat, Int.reduceLT, Int.reduceLE, Int.reduceEq, Nat.reduceLeDiff, Nat.reduceLT, Nat.reduceMul, Nat.reduceAdd, String.reduceEq, j0, j5, j8, j9, j10, j53, j54, hm2, hjl, encT_eq]
          refine cal_eq hsub ?_
          simp only [go_sem, Nat.reduceEqDiff, Nat.reduceBEq, Int.reduceToNat, Int.reduceLT, Int.reduceLE, Int.reduceEq, Nat.reduceLeDiff, Nat.reduceLT, Nat.reduceMul, Nat.reduceAdd, String.reduceEq, j0, j5, j8, j9, j10, j53, j54, hwj]
          refine hQ .normal _ ?_; clear hQ Q
          refine ⟨_, _, (j + 1, r2), by rw [encT_eq]; have := hDx rj r2; rw [encT_eq] at this; exact this, ?_, ⟨by dsimp only; omega, by rw [runB_len _ _ _ hr2]; exact hj60, by dsimp only; rw [show x.n.toNat - (j + 1) = x.n.toNat - j - 1 by omega]; exact hjr⟩, by dsimp only; omega⟩
          simp [upd_apply, j0, j5, j8, j9, j10, j53, IV.np, np_sh, npTs] <;> omega
        · refine TS.of [] fun Q hQ => ?_
          simp only [go_sem, Nat.reduceEqDiff, Nat.reduceBEq, Int.reduceToNat, Int.reduceLT, Int.reduceLE, Int.reduceEq, Nat.reduceLeDiff, Nat.reduceLT, Nat.reduceMul, Nat.reduceAdd, String.reduceEq, j0, j5, j8, j9, j10, j53, j54, hm2, hjl]
          refine hQ (.exit 3) _ ?_; clear hQ Q
          rw [show x.n.toNat - j = 0 by omega, loopU, Option.some.injEq] at hjr
          subst hjr
          exact ⟨rfl, by simp [upd_apply, j0, j8, j9, j10], rfl⟩
      rw [if_neg k7] at hr1
      by_cases k8 : x.k = 8
      · rw [if_pos k8] at hr1
        refine TS.seq (TS.of [] fun Q hQ => ?_)
        simp only [go_sem, Nat.reduceEqDiff, Nat.reduceBEq, Int.reduceToNat, Int.reduceLT, Int.reduceLE, Int.reduceEq, Nat.reduceLeDiff, Nat.reduceLT, Nat.reduceMul, Nat.reduceAdd, String.reduceEq, eq_false k1]
        refine hQ .normal _ ?_; clear hQ Q
        refine TS.cond (t := false) (by simp only [go_sem, Nat.reduceEqDiff, Nat.reduceBEq, Int.reduceToNat, Int.reduceLT, Int.reduceLE, Int.reduceEq, Nat.reduceLeDiff, Nat.reduceLT, Nat.reduceMul, Nat.reduceAdd, String.reduceEq]) ?_
        refine TS.seq (TS.of [] fun Q hQ => ?_)
        simp only [go_sem, Nat.reduceEqDiff, Nat.reduceBEq, Int.reduceToNat, Int.reduceLT, Int.reduceLE, Int.reduceEq, Nat.reduceLeDiff, Nat.reduceLT, Nat.reduceMul, Nat.reduceAdd, String.reduceEq, eq_false k6]
        refine hQ .normal _ ?_; clear hQ Q
        refine TS.cond (t := false) (by simp only [go_sem, Nat.reduceEqDiff, Nat.reduceBEq, Int.reduceToNat, Int.reduceLT, Int.reduceLE, Int.reduceEq, Nat.reduceLeDiff, Nat.reduceLT, Nat.reduceMul, Nat.reduceAdd, String.reduceEq]) ?_
        refine TS.seq (TS.of [] fun Q hQ => ?_)
        simp only [go_sem, Nat.reduceEqDiff, Nat.reduceBEq, Int.reduceToNat, Int.reduceLT, Int.reduceLE, Int.reduceEq, Nat.reduceLeDiff, Nat.reduceLT, Nat.reduceMul, Nat.reduceAdd, String.reduceEq, eq_false k7]
        refine hQ .normal _ ?_; clear hQ Q
        refine TS.cond (t := false) (by simp only [go_sem, Nat.reduceEqDiff, Nat.reduceBEq, Int.reduceToNat, Int.reduceLT, Int.reduceLE, Int.reduceEq, Nat.reduceLeDiff, Nat.reduceLT, Nat.reduceMul, Nat.reduceAdd, String.reduceEq]) ?_
        refine TS.seq (TS.mono (Q := fun e1 s => e1 = .normal ∧ (s.t 0 = .ptr (B.length + 1) 0 ∧ s.t 5 = .ptr (B.length + (R.length + 1 + 1)) 0 ∧ s.t 8 = slT l ∧ s.t 9 = ii l.length ∧ s.t 10 = ii k ∧ s.t 62 = bb true) ∧ s.m = ⟨RM B r (R ++ [.cells (encT x)]), rw_⟩) ?_ ?_)
        · refine TS.of [] fun Q hQ => ?_
          simp only [go_sem, Nat.reduceEqDiff, Nat.reduceBEq, Int.reduceToNat, Int.reduceLT, Int.reduceLE, Int.reduceEq, Nat.reduceLeDiff, Nat.reduceLT, Nat.reduceMul, Nat.reduceAdd, String.reduceEq, eq_true k8]
          refine hQ .normal _ ?_; clear hQ Q
          refine ⟨rfl, ?_, by rw [encT_eq]⟩
          simp [upd_apply, i0, i8, i9, i10]
        rintro e1 s1 ⟨rfl, ⟨i0, i5, i8, i9, i10, i62⟩, hm1⟩
        refine TS.cond (t := true) (by simp only [go_sem, Nat.reduceEqDiff, Nat.reduceBEq, Int.reduceToNat, Int.reduceLT, Int.reduceLE, Int.reduceEq, Nat.reduceLeDiff, Nat.reduceLT, Nat.reduceMul, Nat.reduceAdd, String.reduceEq, i62]) ?_
        have hwn : IntKind.i64.wrap (x.n - 1) = (x.n.toNat : Int) - 1 := by rw [wrap_id (by omega) (by omega)]; omega
        refine TS.seq (TS.of [] fun Q hQ => ?_)
        simp only [go_sem, Nat.reduceEqDiff, Nat.reduceBEq, Int.reduceToNat, Int.reduceLT, Int.reduceLE, Int.reduceEq, Nat.reduceLeDiff, Nat.reduceLT, Nat.reduceMul, Nat.reduceAdd, String.reduceEq, hm1, i0, i5, encT_eq, hwn]
        refine hQ .normal _ ?_; clear hQ Q
        refine TS.block (TS.loop (α := Nat × RS) (fun y => [(0, .ptr (B.length + 1) 0), (5, .ptr (B.length + (R.length + 1 + 1)) 0), (8, slT l), (9, ii l.length), (10, ii k), (7, ii ((y.1 : Int) - 1))]) (fun y => ⟨RM B y.2 (R ++ [.cells (encT x)]), rw_⟩) (fun y => y.1 ≤ x.n.toNat ∧ y.2.cs.length = 60 ∧ loopDn (fun i rs => runB x.b (rs.put x.s i)) y.1 y.2 = some r1) (fun y => y.1) (x.n.toNat, r) (by simp) ⟨by simp [Has, upd_apply, i0, i5, i8, i9, i10], by rw [encT_eq], by simp [hr60, hr1]⟩ ?_)
        rintro ⟨j, rj⟩ s2 hH hm2 ⟨hj, hj60, hjr⟩
        dsimp only at hH hm2 hj hj60 hjr
        simp only [Has, List.mem_cons, List.not_mem_nil, or_false, forall_eq_or_imp, forall_eq] at hH; obtain ⟨j0, j5, j8, j9, j10, j7⟩ := hH
        by_cases hj0 : j = 0
        · subst hj0
          rw [loopDn, Option.some.injEq] at hjr
          subst hjr
          refine TS.of [] fun Q hQ => ?_
          simp only [go_sem, Nat.reduceEqDiff, Nat.reduceBEq, Int.reduceToNat, Int.reduceLT, Int.reduceLE, Int.reduceEq, Nat.reduceLeDiff, Nat.reduceLT, Nat.reduceMul, Nat.reduceAdd, String.reduceEq, j0, j5, j8, j9, j10, j7, hm2, show ¬ (0 : Int) ≤ 0 - 1 by decide]
          refine hQ (.exit 5) _ ?_; clear hQ Q
          exact ⟨rfl, by simp [upd_apply, j0, j8, j9, j10], rfl⟩
        · obtain ⟨i, rfl⟩ : ∃ i, j = i + 1 := ⟨j - 1, by omega⟩
          rw [loopDn, Option.bind_eq_some_iff] at hjr
          obtain ⟨r2, hr2, hjr⟩ := hjr
          have hsub := ihR (szt x.b) (by omega) x i rj r2 (Nat.le_refl _) hab hj60 hr2 B (R ++ [.cells (encT x)]) rw_
          rw [encT_eq] at hsub
          rw [show ((i + 1 : Nat) : Int) - 1 = (i : Int) by omega] at j7
          have hwj : IntKind.i64.wrap ((i : Int) - 1) = (i : Int) - 1 := wrap_id (by omega) (by omega)
          refine TS.of [] fun Q hQ => ?_
          simp only [go_sem, Nat.reduceEqDiff, Nat.reduceBEq, Int.reduceToNat, Int.reduceLT, Int.reduceLE, Int.reduceEq, Nat.reduceLeDiff, Nat.reduceLT, Nat.reduceMul, Nat.reduceAdd, String.reduceEq, j0, j5, j8, j9, j10, j7, hm2, encT_eq, Int.natCast_nonneg]
          refine cal_eq hsub ?_
          simp only [go_sem, Nat.reduceEqDiff, Nat.reduceBEq, Int.reduceToNat, Int.reduceLT, Int.reduceLE, Int.reduceEq, Nat.reduceLeDiff, Nat.reduceLT, Nat.reduceMul, Nat.reduceAdd, String.reduceEq, j0, j5, j8, j9, j10, j7, hwj]
          refine hQ .normal _ ?_; clear hQ Q
          refine ⟨_, _, (i, r2), by rw [encT_eq]; have := hDx rj r2; rw [encT_eq] at this; exact this, ?_, ⟨by dsimp only; omega, by rw [runB_len _ _ _ hr2]; exact hj60, hjr⟩, by dsimp only; omega⟩
          simp [upd_apply, j0, j5, j8, j9, j10, IV.np, np_sh, npTs] <;> omega
      rw [if_neg k8] at hr1
      obtain ⟨y, z, ly, hxx⟩ := hs2 (by omega)
      rw [hxx, List.getD_cons_zero, List.getD_cons_succ, List.getD_cons_zero, Option.bind_eq_some_iff] at hr1
      obtain ⟨a, ha, hr1⟩ := hr1
      rw [Option.map_eq_some_iff] at hr1
      obtain ⟨c, hc, rfl⟩ := hr1
      have hsub := change_sim (s := x) hxx (by omega) hr60 ha hc B (R ++ [.cells (encT x)]) rw_
      rw [encT_eq] at hsub
      refine TS.of [] fun Q hQ => ?_
      simp only [go_sem, Nat.reduceEqDiff, Nat.reduceBEq, Int.reduceToNat, Int.reduceLT, Int.reduceLE, Int.reduceEq, Nat.reduceLeDiff, Nat.reduceLT, Nat.reduceMul, Nat.reduceAdd, String.reduceEq, eq_false k1, eq_false k6, eq_false k7, eq_false k8, i0, encT_eq]
      refine cal_eq hsub ?_
      simp only [go_sem, Nat.reduceEqDiff, Nat.reduceBEq, Int.reduceToNat, Int.reduceLT, Int.reduceLE, Int.reduceEq, Nat.reduceLeDiff, Nat.reduceLT, Nat.reduceMul, Nat.reduceAdd, String.reduceEq]
      refine hQ .normal _ ?_; clear hQ Q
      refine ⟨rfl, ?_, by rw [encT_eq]⟩
      simp [upd_apply, i0, i8, i9, i10]
    · rintro e1 s1 ⟨rfl, ⟨i0, i8, i9, i10⟩, hm1⟩
      refine TS.of [] fun Q hQ => ?_
      simp only [go_sem, Nat.reduceEqDiff, Nat.reduceBEq, Int.reduceToNat, Int.reduceLT, Int.reduceLE, Int.reduceEq, Nat.reduceLeDiff, Nat.reduceLT, Nat.reduceMul, Nat.reduceAdd, String.reduceEq, i0, i8, i9, i10, hw]
      refine hQ .normal _ ?_; clear hQ Q
      refine ⟨_, _, (k + 1, r1), hm1 ▸ hD r r1 [.cells (encT x)], ?_, ⟨hlt, hr1l, hrest⟩, by dsimp only; omega⟩
      simp [upd_apply, i0, i8, i9, IV.np, np_sh, npTs] <;> omega
  · refine TS.of [] fun Q hQ => ?_
    simp only [go_sem, Nat.reduceEqDiff, Nat.reduceBEq, Int.reduceToNat, Int.reduceLT, Int.reduceLE, Int.reduceEq, Nat.reduceLeDiff, Nat.reduceLT, Nat.reduceMul, Nat.reduceAdd, String.reduceEq, i0, i8, i9, i10, hm, hlt]
    refine hQ (.exit 0) _ ?_; clear hQ Q
    have : l.drop k = [] := List.drop_eq_nil_of_le (by omega)
    rw [this, runB, Option.some.injEq] at hrest
    subst hrest
    refine post_end _ _ (.tup []) (by simp only [go_sem, Nat.reduceEqDiff, Nat.reduceBEq, Int.reduceToNat, Int.reduceLT, Int.reduceLE, Int.reduceEq, Nat.reduceLeDiff, Nat.reduceLT, Nat.reduceMul, Nat.reduceAdd, String.reduceEq]) rfl (hD0 rs r) ⟨rfl, rfl⟩
theorem eblock_all : ∀ N, N < 900000 → EBC N := by
  intro N
  induction N using Nat.strongRecOn with
  | ind N ih => intro hN; exact eblock_step hN (fun M h => ih M h (by omega)) (fun M h => round_step (ih M h (by omega)))
theorem eblock_sim {l : List Stmt} {rs rs' : RS} (h : szt l < 900000) (ha : argTs l) (h60 : rs.cs.length = 60) (hr : runB l rs = some rs') : SimX 62 [slT l] rs rs' := eblock_all _ h l rs rs' (Nat.le_refl _) ha h60 hr
end Go.Proofs.Ytphjldhdnmoolaa.A
/- The walks of some functions over the abstract machine. -/
namespace Go.Proofs.Ytphjldhdnmoolaa.A
open Go
/-! what is parsed has its form -/
mutual
def fitE : Expr → Prop
  | .mk k _ s a _ => fitEs a ∧ ((k = 1 ∧ a = []) ∨ (k = 2 ∧ a = []) ∨ ((k = 3 ∨ k = 4 ∨ k = 5) ∧ ∃ x, a = [x]) ∨ (k = 6 ∧ (∃ x y, a = [x, y]) ∧ level s ≠ 0))
def fitEs : List Expr → Prop
  | [] => True
  | e :: l => fitE e ∧ fitEs l
end
mutual
def fitT : Stmt → Prop
  | .mk k _ x n b e _ => fitEs x ∧ fitTs b ∧ fitTs e ∧ (0 ≤ n ∧ n < 9223372036854775808) ∧ ((k = 1 ∧ (∃ a, x = [a]) ∧ b = [] ∧ e = []) ∨ ((2 ≤ k ∧ k ≤ 5) ∧ (∃ a c, x = [a, c]) ∧ b = [] ∧ e = []) ∨ (k = 6 ∧ ∃ a, x = [a]) ∨ ((k = 7 ∨ k = 8) ∧ x = [] ∧ e = []))
def fitTs : List Stmt → Prop
  | [] => True
  | s :: l => fitT s ∧ fitTs l
end
structure FitD (d : Def) : Prop where
  needs : fitEs d.needs
  body : fitTs d.body
  give : fitEs d.give
  one : d.give = [] ∨ ∃ a, d.give = [a]
mutual
theorem fit_arg : ∀ s : Stmt, fitT s → argT s
  | .mk k s x n b e p, h => by
    obtain ⟨_, hb, he, hn, hk⟩ := h
    refine ⟨hn, fun h => ?_, fun h => ?_, fits_arg b hb, fits_arg e he⟩
    · rcases hk with ⟨_, ⟨a, rfl⟩, _⟩ | ⟨h2, _⟩ | ⟨_, a, rfl⟩ | ⟨h2, _⟩
      · exact ⟨a, [], rfl⟩
      · omega
      · exact ⟨a, [], rfl⟩
      · omega
    · rcases hk with ⟨_, ⟨a, rfl⟩, _⟩ | ⟨h2, ⟨a, c, rfl⟩, _⟩ | ⟨_, a, rfl⟩ | ⟨h2, _⟩
      · omega
      · exact ⟨a, c, [], rfl⟩
      · omega
      · omega
theorem fits_arg : ∀ l : List Stmt, fitTs l → argTs l
  | [], _ => trivial
  | s :: l, h => ⟨fit_arg s h.1, fits_arg l h.2⟩
end
theorem digV_lt (n : Int) (b : UInt8) : digV n b < 9223372036854775808 := by
  unfold digV; simp only [IntKind.wrap, IntKind.bits, IntKind.signed]; simp; omega
theorem numV_lt (s : Bytes) : numV s < 9223372036854775808 := by
  unfold numV
  generalize hl : L s = l
  have : ∀ (l : List UInt8) (n : Int), n < 9223372036854775808 → l.foldl digV n < 9223372036854775808 := by
    intro l
    induction l with
    | nil => intro n h; exact h
    | cons b l ih => intro n h; exact ih _ (digV_lt n b)
  exact this l 0 (by decide)
section
variable {l : List Tok}
theorem numP_lt (p : Int) : (numP l p).1 < 9223372036854775808 := by
  unfold numP; split
  · show (0 : Int) < _; decide
  · split
    · show (0 : Int) < _; decide
    · exact numV_lt _
theorem expr_fit : ∀ f, (∀ p least depth, 0 ≤ (exprF l f p least depth).2 → fitE (exprF l f p least depth).1) ∧ (∀ left p most least depth, fitE left → 0 ≤ (loopF l f left p most least depth).2 → fitE (loopF l f left p most least depth).1) ∧ (∀ p depth, 0 ≤ (smallF l f p depth).2 → fitE (smallF l f p depth).1) ∧ (∀ p depth a b, 0 ≤ (aroundF l f p depth a b).2 → fitE (aroundF l f p depth a b).1) := by
  intro f
  induction f with
  | zero => exact ⟨fun _ _ _ h => absurd h (by simp [exprF]), fun _ _ _ _ _ _ h => absurd h (by simp [loopF]), fun _ _ h => absurd h (by simp [smallF]), fun _ _ _ _ h => absurd h (by simp [aroundF])⟩
  | succ f ih =>
    obtain ⟨ihE, ihL, ihS, ihA⟩ := ih
    refine ⟨fun p least depth h => ?_, fun left p most least depth hl h => ?_, fun p depth h => ?_, fun p depth a b h => ?_⟩
    · rw [exprF] at h ⊢
      have h1 := (expr_took f).2.1 _ _ _ _ _ h
      exact ihL _ _ _ _ _ (ihS p depth h1.1) h
    · rw [loopF] at h ⊢
      split at h
      · rename_i hc
        rw [if_pos hc]
        split at h
        · rename_i hv; rw [if_pos hv]; exact hl
        · rename_i hv
          rw [if_neg hv]
          have h1 := (expr_took f).2.1 _ _ _ _ _ h
          have h2 := ihE _ _ _ h1.1
          refine ihL _ _ _ _ _ ⟨⟨hl, h2, trivial⟩, .inr (.inr (.inr ⟨rfl, ⟨_, _, rfl⟩, fun e => hv (.inr (.inr e))⟩))⟩ h
      · rename_i hc; rw [if_neg hc]; exact hl
    · rw [smallF] at h ⊢
      split at h
      · dsimp only at h; omega
      · rename_i hp
        rw [if_neg hp]
        split at h
        · rename_i hc
          rw [if_pos hc]
          split at h
          · unfold bad at h; dsimp only at h; omega
          · rename_i hd
            rw [if_neg hd]
            have h1 := ihS _ _ h
            refine ⟨⟨h1, trivial⟩, .inr (.inr (.inl ⟨?_, _, rfl⟩))⟩
            split <;> simp
        · rename_i hc
          rw [if_neg hc]
          split at h
          · rename_i hb
            rw [if_pos hb]
            have h1 := ihA _ _ _ _ h
            exact ⟨⟨h1, trivial⟩, .inr (.inr (.inl ⟨.inl rfl, _, rfl⟩))⟩
          · rename_i hb
            rw [if_neg hb]
            split at h
            · rename_i hb2
              rw [if_pos hb2]
              exact ihA _ _ _ _ h
            · rename_i hb2
              rw [if_neg hb2]
              split at h
              · rename_i hb3
                rw [if_pos hb3]
                exact ⟨trivial, .inl ⟨rfl, rfl⟩⟩
              · rename_i hb3
                rw [if_neg hb3]
                split at h
                · rename_i hb4
                  rw [if_pos hb4]
                  exact ⟨trivial, .inr (.inl ⟨rfl, rfl⟩)⟩
                · rename_i hb4
                  rw [if_neg hb4]
                  exact ⟨trivial, .inr (.inl ⟨rfl, rfl⟩)⟩
    · rw [aroundF] at h ⊢
      split at h
      · rename_i hc
        simp only [Bool.and_eq_true] at hc
        have := isP_nn hc.2
        unfold bad at h; dsimp only at h; omega
      · rename_i hc
        rw [if_neg hc]
        have h1 := eatP_took _ _ h
        exact ihE _ _ _ h1.1
theorem expr_fit1 {p least depth : Int} (h : 0 ≤ (expr l p least depth).2) : fitE (expr l p least depth).1 := (expr_fit _).1 p least depth h
theorem around_fit1 {p depth : Int} {a b : Bytes} (h : 0 ≤ (around l p depth a b).2) : fitE (around l p depth a b).1 := (expr_fit _).2.2.2 p depth a b h
theorem cell_fit (p depth : Int) (h : 0 ≤ (cellS l p depth).2) : fitT (cellS l p depth).1 := by
  unfold cellS at h ⊢
  dsimp only at h ⊢
  split at h
  · rename_i hs
    rw [if_pos hs]
    dsimp only at h ⊢
    have h1 := eatP_took _ _ h
    have h2 : 0 ≤ (around l ((around l p depth qLB qRB).2 + 1) depth qLB qRB).2 := by
      have h3 := h1.1
      have hp := isP_nn hs
      unfold swapEnd at h3
      split at h3
      · unfold bad at h3; omega
      · exact h3
    exact ⟨⟨around_fit1 (isP_nn hs), around_fit1 h2, trivial⟩, trivial, trivial, by omega, .inr (.inl ⟨by omega, ⟨_, _, rfl⟩, rfl, rfl⟩)⟩
  · rename_i hs
    rw [if_neg hs]
    split at h
    · rename_i hs2
      rw [if_pos hs2]
      dsimp only at h ⊢
      have h1 := eatP_took _ _ h
      have h5 : 0 ≤ (around l p depth qLB qRB).2 := by
        simp only [Bool.or_eq_true] at hs2
        rcases hs2 with h | h | h <;> exact isP_nn h
      refine ⟨⟨around_fit1 h5, expr_fit1 h1.1, trivial⟩, trivial, trivial, by omega, .inr (.inl ⟨?_, ⟨_, _, rfl⟩, rfl, rfl⟩)⟩
      split
      · omega
      · split <;> omega
    · dsimp only at h
      split at h
      · omega
      · unfold bad at h; omega
theorem fitTs_app (a : List Stmt) (x : Stmt) : fitTs (a ++ [x]) ↔ fitTs a ∧ fitT x := by
  induction a with
  | nil => simp [fitTs]
  | cons y a ih => simp only [List.cons_append, fitTs, ih, and_assoc]
theorem fitEs_app (a : List Expr) (x : Expr) : fitEs (a ++ [x]) ↔ fitEs a ∧ fitE x := by
  induction a with
  | nil => simp [fitEs]
  | cons y a ih => simp only [List.cons_append, fitEs, ih, and_assoc]
theorem stmt_fit (hn : numsOK l) : ∀ f, (∀ p depth, 0 ≤ p → 0 ≤ (stmtF l f p depth).2 → fitT (stmtF l f p depth).1) ∧ (∀ p depth, 0 ≤ (blockF l f p depth).2 → fitTs (blockF l f p depth).1) ∧ (∀ acc p depth, fitTs acc → 0 ≤ (loopB l f acc p depth).2 → fitTs (loopB l f acc p depth).1) := by
  intro f
  induction f with
  | zero => exact ⟨fun _ _ _ h => absurd h (by simp [stmtF]), fun _ _ h => absurd h (by simp [blockF]), fun _ _ _ _ h => absurd h (by simp [loopB])⟩
  | succ f ih =>
    obtain ⟨ihS, ihB, ihL⟩ := ih
    refine ⟨fun p depth hp0 h => ?_, fun p depth h => ?_, fun acc p depth hf h => ?_⟩
    · rw [stmtF] at h ⊢
      split at h
      · rename_i hc; rw [if_pos hc]; exact cell_fit p depth h
      · rename_i hc
        rw [if_neg hc]
        split at h
        · rename_i hs
          rw [if_pos hs]
          have h1 := eatP_took _ _ h
          exact ⟨⟨expr_fit1 h1.1, trivial⟩, trivial, trivial, by omega, .inl ⟨rfl, ⟨_, rfl⟩, rfl, rfl⟩⟩
        · rename_i hs
          rw [if_neg hs]
          split at h
          · rename_i hs2
            rw [if_pos hs2]
            split at h
            · rename_i he
              rw [if_pos he]
              have h1 := ihB _ _ h
              have h2 := ihB _ _ (isP_nn he)
              have h3 := ((stmt_took hn f).2.1 _ _ (isP_nn he)).1
              exact ⟨⟨expr_fit1 h3, trivial⟩, h2, h1, by omega, .inr (.inr (.inl ⟨rfl, _, rfl⟩))⟩
            · rename_i he
              rw [if_neg he]
              have h2 := ihB _ _ h
              have h3 := ((stmt_took hn f).2.1 _ _ h).1
              exact ⟨⟨expr_fit1 h3, trivial⟩, h2, trivial, by omega, .inr (.inr (.inl ⟨rfl, _, rfl⟩))⟩
          · rename_i hs2
            rw [if_neg hs2]
            split at h
            · rename_i hs3
              rw [if_pos hs3]
              have h2 := ihB _ _ h
              have h3 := ((stmt_took hn f).2.1 _ _ h).1
              have h8 := numP_nn hn _ h3
              exact ⟨trivial, h2, trivial, ⟨h8, numP_lt _⟩, .inr (.inr (.inr ⟨.inl rfl, rfl, rfl⟩))⟩
            · unfold bad at h; dsimp only at h; exfalso
              rename_i hx
              omega
    · rw [blockF] at h ⊢
      split at h
      · rename_i hc
        simp only [Bool.and_eq_true] at hc
        have := isP_nn hc.2
        unfold bad at h; dsimp only at h; omega
      · rename_i hc
        rw [if_neg hc]
        exact ihL _ _ _ trivial h
    · rw [loopB] at h ⊢
      split at h
      · rename_i hc
        rw [if_pos hc]
        simp only [Bool.and_eq_true, decide_eq_true_eq] at hc
        have hnn : 0 ≤ (stmtF l f p (depth + 1)).2 := loopB_nn h
        exact ihL _ _ _ ((fitTs_app _ _).2 ⟨hf, ihS p (depth + 1) hc.1 hnn⟩) h
      · rename_i hc
        rw [if_neg hc]
        exact hf
theorem loopN_fit : ∀ f acc p, fitEs acc → 0 ≤ (loopN l f acc p).2 → fitEs (loopN l f acc p).1
  | 0, _, _, _, h => absurd h (by simp [loopN])
  | f + 1, acc, p, ha, h => by
    rw [loopN] at h ⊢
    split at h
    · rename_i hc
      rw [if_pos hc]
      have h1 := loopN_took f _ _ h
      have h2 := eatP_took _ _ h1.1
      exact loopN_fit f _ _ ((fitEs_app _ _).2 ⟨ha, expr_fit1 h2.1⟩) h
    · rename_i hc; rw [if_neg hc]; exact ha
theorem loopD_fit (hn : numsOK l) : ∀ f acc p, fitTs acc → 0 ≤ (loopD l f acc p).2 → fitTs (loopD l f acc p).1
  | 0, _, _, _, h => absurd h (by simp [loopD])
  | f + 1, acc, p, ha, h => by
    rw [loopD] at h ⊢
    split at h
    · rename_i hc
      rw [if_pos hc]
      simp only [Bool.and_eq_true, decide_eq_true_eq] at hc
      exact loopD_fit hn f _ _ ((fitTs_app _ _).2 ⟨ha, (stmt_fit hn _).1 p 1 hc.1 (loopD_nn h)⟩) h
    · rename_i hc; rw [if_neg hc]; exact ha
theorem defP_fit (hn : numsOK l) (h : 0 ≤ (defP l).2) : FitD (defP l).1 := by
  unfold defP at h ⊢
  dsimp only at h ⊢
  split at h
  · rename_i hc
    rw [if_pos hc]
    dsimp only at h ⊢
    have h1 := eatP_took _ _ h
    have h2 := eatP_took _ _ h1.1
    have h5 := loopD_nn (isP_nn hc)
    exact ⟨loopN_fit _ _ _ trivial h5, loopD_fit hn _ _ _ trivial (isP_nn hc), ⟨expr_fit1 h2.1, trivial⟩, .inr ⟨_, rfl⟩⟩
  · rename_i hc
    rw [if_neg hc]
    dsimp only at h ⊢
    have h1 := eatP_took _ _ h
    have h5 := loopD_nn h1.1
    exact ⟨loopN_fit _ _ _ trivial h5, loopD_fit hn _ _ _ trivial h1.1, trivial, .inl rfl⟩
end
theorem parse_fit {s : Bytes} (h : (parse s).2.1 = 0) : FitD (parse s).1 := by
  unfold parse at h ⊢
  dsimp only at h ⊢
  split at h
  · rename_i hc; exact absurd h hc
  · rename_i hc
    rw [if_neg hc]
    have hc' : (tokens s).2.1 = 0 := by simpa using hc
    split at h
    · cases h
    · rename_i hp
      rw [if_neg hp]
      obtain ⟨l0, e1, e2, e3, e4⟩ := tokens_ok hc'
      have hnum : numsOK (tokens s).1 := by
        intro p hk
        have hq : numQ (tk (tokens s).1 p) := by
          unfold tk
          rw [List.getD_eq_getElem?_getD]
          cases hg : (tokens s).1[p.toNat]? with
          | none => intro hk; cases hk
          | some x =>
            have hm := List.mem_of_getElem? hg
            simp only [Option.getD_some]
            unfold tokens at hm
            split at hm
            · simp at hm
            · exact toksF_num s _ _ _ (by simp) x hm
        obtain ⟨q1, q2⟩ := hq hk
        rw [(numV_nat q1 q2).1]
        omega
      have hT : Toks (tokens s).1 := by rw [e1]; exact Toks.of rfl e2 e4.kind
      have hpos : 0 ≤ (defP (tokens s).1).2 := by
        have h0 : fixP (tokens s).1 (defP (tokens s).1).2 = (defP (tokens s).1).2 ∨ fixP (tokens s).1 (defP (tokens s).1).2 = bad (defP (tokens s).1).2 := by unfold fixP; split <;> simp
        rcases h0 with h0 | h0
        · rw [h0] at hp; omega
        · exfalso
          apply hp
          by_cases hn : 0 ≤ (defP (tokens s).1).2
          · rw [h0]; unfold bad; omega
          · have : fixP (tokens s).1 (defP (tokens s).1).2 = (defP (tokens s).1).2 := by unfold fixP; simp [hn]
            rw [this]; omega
      exact defP_fit hnum hpos
end Go.Proofs.Ytphjldhdnmoolaa.A
/- The walks of some functions over the abstract machine. -/
namespace Go.Proofs.Ytphjldhdnmoolaa.A
open Go
/-! the checker finds what the document's answer finds: expressions -/
theorem fail_some {cs : CS} {p : Int × Int} (h : cs.ft = some p) (c a : Int) : cs.fail c a = cs := by unfold CS.fail; rw [h]; rfl
theorem fail_none {cs : CS} (h : cs.ft = none) (c a : Int) : cs.fail c a = { cs with ft := some (c, a) } := by unfold CS.fail; rw [h]; rfl
mutual
theorem cexpr_ft {p : Int × Int} : ∀ (e : Expr) (cs : CS), cs.ft = some p → (cexpr e cs).2.2.ft = some p
  | .mk k n s a q, cs, h => by
    have h1 : ∀ kind (cs : CS), cs.ft = some p → (cargs a kind cs).2.ft = some p := fun kind cs h => cargs_ft a kind cs h
    have h2 : ∀ (cs : CS), cs.ft = some p → (ceq a cs).2.ft = some p := fun cs h => ceq_ft a cs h
    rw [cexpr]
    split
    · exact h
    · split
      · split
        · exact h
        · split
          · exact h
          · dsimp only; rw [fail_some h]; exact h
      · split
        · exact h1 1 { cs with rd := true } h
        · split
          · exact h1 2 cs h
          · split
            · exact h1 1 cs h
            · split
              · exact h1 2 cs h
              · split
                · exact h1 1 cs h
                · split
                  · split
                    · exact h2 cs h
                    · exact h
                  · exact h1 1 cs h
theorem cargs_ft {p : Int × Int} : ∀ (l : List Expr) (kind : Int) (cs : CS), cs.ft = some p → (cargs l kind cs).2.ft = some p
  | [], kind, cs, h => h
  | e :: l, kind, cs, h => by
    have h1 := cexpr_ft e cs h
    rw [cargs]
    refine cargs_ft l kind _ ?_
    split
    · exact h1
    · rw [fail_some h1]; exact h1
theorem ceq_ft {p : Int × Int} : ∀ (l : List Expr) (cs : CS), cs.ft = some p → (ceq l cs).2.ft = some p
  | [], cs, h => h
  | e :: l, cs, h => by
    rw [ceq]
    exact cargs_ft l _ _ (cexpr_ft e cs h)
end
theorem cwant_ft {p : Int × Int} (e : Expr) (kind : Int) (cs : CS) (h : cs.ft = some p) : (cwant e kind cs).2.ft = some p := by
  have h1 := cexpr_ft e cs h
  unfold cwant
  dsimp only
  split
  · exact h1
  · rw [fail_some h1]; exact h1
theorem failF_ne {st : Int × Int} (h : st.1 ≠ 0) (c a : Int) : failF st c a = st := by unfold failF; rw [if_neg h]
theorem failF_0 (c a : Int) : failF (0, 0) c a = (c, a) := by unfold failF; rw [if_pos rfl]
mutual
theorem kindE_ft (E : Env) {st : Int × Int} (h : st.1 ≠ 0) : ∀ e : Expr, (kindE e E st).2 = st
  | .mk k n s a p => by
    have h1 := fun i T => kindA_ft E h k s a i T
    rw [kindE]
    split
    · split
      · exact h1 0 []
      · split
        · exact h1 0 []
        · dsimp only; rw [h1 0 [], failF_ne h]
    · split
      · exact h1 0 []
      · split
        · exact h1 0 []
        · exact h1 0 []
theorem kindA_ft (E : Env) {st : Int × Int} (h : st.1 ≠ 0) (k : Int) (s : Bytes) : ∀ (l : List Expr) (i : Nat) (T : List Int), kindA k s l E i T st = st
  | [], i, T => rfl
  | e :: l, i, T => by
    have h1 := kindE_ft E h e
    rw [kindA, h1]
    have h2 : (if wantsP k s i (T ++ [(kindE e E st).1]) ≠ 0 ∧ (kindE e E st).1 ≠ wantsP k s i (T ++ [(kindE e E st).1]) then failF st 10 e.p else st) = st := by
      split
      · exact failF_ne h _ _
      · rfl
    rw [h2]
    exact kindA_ft E h k s l _ _
end
theorem needE_ft (E : Env) {st : Int × Int} (h : st.1 ≠ 0) (e : Expr) (w : Int) : needE e w E st = st := by
  unfold needE; rw [kindE_ft E h]; split
  · rfl
  · exact failF_ne h _ _
theorem fitEs_mem : ∀ {l : List Expr}, fitEs l → ∀ e ∈ l, fitE e
  | e :: l, h, x, hx => by
    rcases List.mem_cons.1 hx with rfl | hx
    · exact h.1
    · exact fitEs_mem h.2 x hx
mutual
theorem cexpr_size : ∀ (e : Expr), fitE e → ∀ cs : CS, (cexpr e cs).2.1 = sizeE e
  | .mk k n s a p, h, cs => by
    have h1 := fun kind cs => cargs_size a h.1 kind cs
    have h2 := fun cs => ceq_size a h.1 cs
    obtain ⟨_, hk⟩ := h
    rw [cexpr, sizeE]
    have ha : (k = 1 ∨ k = 2) → sizeEs a = 0 := fun hk2 => by
      rcases hk with ⟨_, rfl⟩ | ⟨_, rfl⟩ | ⟨h3, _⟩ | ⟨h3, _⟩
      · rfl
      · rfl
      · omega
      · omega
    split
    · dsimp only; rw [ha (by omega)]; rfl
    · split
      · rename_i h0
        rw [ha (.inr h0)]
        split
        · rfl
        · split <;> rfl
      · split
        · dsimp only; rw [h1]
        · split
          · dsimp only; rw [h1]
          · split
            · dsimp only; rw [h1]
            · split
              · dsimp only; rw [h1]
              · split
                · dsimp only; rw [h1]
                · split
                  · have hl : a.length = 2 := by
                      rcases hk with ⟨h3, _⟩ | ⟨h3, _⟩ | ⟨h3, _⟩ | ⟨_, ⟨x, y, rfl⟩, _⟩
                      · contradiction
                      · contradiction
                      · omega
                      · rfl
                    rw [if_pos hl]; dsimp only; rw [h2]
                  · dsimp only; rw [h1]
theorem cargs_size : ∀ (l : List Expr), fitEs l → ∀ (kind : Int) (cs : CS), (cargs l kind cs).1 = sizeEs l
  | [], h, kind, cs => rfl
  | e :: l, h, kind, cs => by rw [cargs, sizeEs]; dsimp only; rw [cexpr_size e h.1, cargs_size l h.2]
theorem ceq_size : ∀ (l : List Expr), fitEs l → ∀ (cs : CS), (ceq l cs).1 = sizeEs l
  | [], h, cs => rfl
  | e :: l, h, cs => by rw [ceq, sizeEs]; dsimp only; rw [cexpr_size e h.1, cargs_size l h.2]
end
end Go.Proofs.Ytphjldhdnmoolaa.A
/- The walks of some functions over the abstract machine. -/
namespace Go.Proofs.Ytphjldhdnmoolaa.A
open Go
/-! ref08: the walk through a block -/
structure KG (l : List Stmt) (env : Env) (s : KS) : Prop where
  arg : argTs l
  len : env.length + szt l < 900000
  dl : s.dl.length ≤ 16
  ne : env.length ≠ 0 → s.dl.length ≠ 0
def KBC (N : Nat) : Prop := ∀ (l : List Stmt) (env : Env) (s : KS), szt l ≤ N → KG l env s → SimK 52 [slT l, slV env] s (slV (blockK l env s).1) (blockK l env s).2
set_option maxRecDepth 100000 in
set_option maxHeartbeats 4000000 in
theorem kblock_step {N : Nat} (hNb : N < 900000) (ih : ∀ M, M < N → KBC M) : KBC N := by
  intro l env s0 hN hg B R b X hX
  obtain ⟨harg, hlen, h16, hne⟩ := hg
  have hll := szt_len l
  have hcp := app_copy (b := b) (X := X) (n := s0.dl.length) (k := env.length) hne
  have hcl : (encV env).length = env.length * 2 := encV_len env
  have hcb : env.length * 24 ≤ 140737488355328 := by omega
  refine Sim.ofS 109 [.tmp 6] Try.func52 rfl rfl rfl (by simp) fun wr => ?_
  simp only [go_sem, Nat.reduceEqDiff, Nat.reduceBEq, Int.reduceToNat, Int.reduceLT, Int.reduceLE, Int.reduceEq, Nat.reduceLeDiff, Nat.reduceLT, Nat.reduceMul, Nat.reduceAdd, String.reduceEq]
  refine TS.seq (TS.of [] fun Q hQ => ?_)
  simp only [go_sem, Nat.reduceEqDiff, Nat.reduceBEq, Int.reduceToNat, Int.reduceLT, Int.reduceLE, Int.reduceEq, Nat.reduceLeDiff, Nat.reduceLT, Nat.reduceMul, Nat.reduceAdd, String.reduceEq]
  refine hQ .normal _ ?_; clear hQ Q
  refine TS.seq (TS.of [] fun Q hQ => ?_)
  simp only [go_sem, Nat.reduceEqDiff, Nat.reduceBEq, Int.reduceToNat, Int.reduceLT, Int.reduceLE, Int.reduceEq, Nat.reduceLeDiff, Nat.reduceLT, Nat.reduceMul, Nat.reduceAdd, String.reduceEq, hcp, hcl, hcb, encV_one, encV_sh, Nat.zero_add, Nat.zero_mul]
  refine hQ .normal _ ?_; clear hQ Q
  refine TS.seq (TS.seq (TS.of [] fun Q hQ => ?_))
  simp only [go_sem, Nat.reduceEqDiff, Nat.reduceBEq, Int.reduceToNat, Int.reduceLT, Int.reduceLE, Int.reduceEq, Nat.reduceLeDiff, Nat.reduceLT, Nat.reduceMul, Nat.reduceAdd, String.reduceEq]
  refine hQ .normal _ ?_; clear hQ Q
  generalize hF : blockK l env s0 = F
  refine TS.block (TS.loop (α := Nat × Env × KS) (fun x => [(0, .ptr B.length 0), (1, slT l), (2, slW (b.length + 1 + X.length) x.2.1), (7, ii x.1)]) (fun x => ⟨FM B (slD b.length x.2.2.dl) x.2.2.ft R, rowsK b x.2.2.dl.length (X1 X x.2.1.length)⟩) (fun x => x.1 ≤ l.length ∧ blockK (l.drop x.1) x.2.1 x.2.2 = F ∧ x.2.1.length + szt (l.drop x.1) < 900000 ∧ x.2.2.dl.length ≤ 16 ∧ (x.2.1.length ≠ 0 → x.2.2.dl.length ≠ 0) ∧ (x.2.2.dl.length = 0 → X = []) ∧ s0.dl.length ≤ x.2.2.dl.length) (fun x => l.length - x.1) (0, env, s0) (by simp) ⟨by simp [Has, upd_apply, argsT], rfl, ⟨Nat.zero_le _, hF, hlen, h16, hne, hX, Nat.le_refl _⟩⟩ ?_)
  rintro ⟨k, E, S⟩ st hH hm ⟨hk, hrest, hlen1, hS16, hEne, hSX, hS0⟩
  dsimp only at hH hm hk hrest hlen1 hS16 hEne hSX hS0
  simp only [Has, List.mem_cons, List.not_mem_nil, or_false, forall_eq_or_imp, forall_eq] at hH; obtain ⟨i0, i1, i2, i7⟩ := hH
  have hX1 : S.dl.length = 0 → X1 X E.length = [] := fun h => by
    have : E.length = 0 := Decidable.byContradiction fun h2 => hEne h2 h
    rw [this, hSX h]; rfl
  by_cases hlt : k < l.length
  · obtain ⟨x, hx⟩ : ∃ x, l[k]? = some x := ⟨_, List.getElem?_eq_getElem hlt⟩
    have hdr : l.drop k = x :: l.drop (k + 1) := by rw [List.drop_eq_getElem_cons hlt]; congr 1; exact Option.some.inj ((List.getElem?_eq_getElem hlt).symm.trans hx)
    have hat := encTs_at hx
    have hlt7 : k * 7 < (encTs l).length := by rw [encTs_length]; omega
    have hw := wrap_succ hlt (by omega)
    have hszx := szT_at hx
    have hxsz := szT_eq x
    obtain ⟨hs1, hs2, hab, hae⟩ := argT_x (argTs_at harg hx)
    rw [hdr, blockK, stmtK_eq] at hrest
    rw [hdr, szt] at hlen1
    have hEl : E.length < 900000 := by omega
    have hes : ∀ (y : Expr) (ly : List Expr), encEs (y :: ly) = [ii y.k, ii y.n, ss y.s, slE y.a, ii y.p] ++ encEs ly := fun y ly => by rw [encEs, encE_eq]
    have hnp := fun no => slD_np (b := b) (X := X1 X E.length) (dl := S.dl) no
    have hDend : ∀ (E' : Env) (S' : KS) (rows' : List Nat), S.dl.length ≤ S'.dl.length → E.length ≤ E'.length → (E'.length ≠ 0 → S'.dl.length ≠ 0) → rows'.take (rowsK b S'.dl.length (X1 X E'.length)).length = rowsK b S'.dl.length (X1 X E'.length) →
        DropW ⟨FM B (slD b.length S.dl) S.ft R, rowsK b S.dl.length (X1 X E.length)⟩ (B.length + (R.length + 1)) (rowsK b S'.dl.length (X1 X E'.length)).length ⟨FM B (slD b.length S'.dl) S'.ft (R ++ [.cells (encT x)]), rows'⟩ ⟨FM B (slD b.length S'.dl) S'.ft R, rowsK b S'.dl.length (X1 X E'.length)⟩ := fun E' S' rows' h1 h2 h3 h4 =>
      DropW.fk B _ _ S.ft S'.ft R [.cells (encT x)] _ _ _ (rows_le h1 h2 hX1 h3) h4 (fun no => slD_np no)
    have hslot : ∀ (E' : Env) (S' : KS), (E'.length ≠ 0 → S'.dl.length ≠ 0) → ∀ no, (slW (b.length + 1 + X.length) E').np no (rowsK b S'.dl.length (X1 X E'.length)).length = true := fun E' S' h no => by
      simp only [slW, IV.np, npV, Bool.and_true]
      unfold accK
      by_cases h0 : E'.length = 0
      · rw [if_pos h0]; rfl
      · rw [if_neg h0, rowsK_len (h h0)]; unfold X1; rw [if_neg h0]; simp [SK.np]
    by_cases k1 : x.k = 1
    · rw [if_pos k1] at hrest
      obtain ⟨y, ly, hxx⟩ := hs1 (.inl k1)
      rw [hxx, List.getD_cons_zero] at hrest
      have hk1 := (kind_sim y E S.ft (by rw [hxx, szs] at hxsz; omega) hEl).mem B (R ++ [.cells (encT x)]) (rowsK b S.dl.length (X1 X E.length)) (slD b.length S.dl) hnp
      generalize kindE y E S.ft = Y at hk1 hrest
      obtain ⟨t, ft1⟩ := Y
      dsimp only at hk1 hrest
      have hde := (rdeclare_sim x.s x.p ⟨S.dl, ft1⟩ (by dsimp only; omega)).mem B (R ++ [.cells (encT x)]) b (X1 X E.length) hX1
      have hdne := declare_ne x.s x.p ⟨S.dl, ft1⟩
      have hdl := declare_len x.s x.p ⟨S.dl, ft1⟩
      have hd16 := declare_16 x.s x.p ⟨S.dl, ft1⟩ hS16
      generalize KS.declare x.s x.p ⟨S.dl, ft1⟩ = S2 at hde hrest hdne hdl hd16
      have hS2 : S2.dl.length ≠ 0 := fun h => hdne (List.length_eq_zero_iff.1 h)
      have hgr := app_grow (b := b) (X := X) (n := S2.dl.length) (k := E.length) hS2
      have hob : encT x = [ii x.k, ss x.s, .sl .sh (ly.length + 1) (ii y.k :: ii y.n :: ss y.s :: slE y.a :: ii y.p :: encEs ly), ii x.n, slT x.b, slT x.e, ii x.p] := by rw [encT_eq, hxx]; simp only [slE, hes, List.length_cons, List.cons_append, List.nil_append]
      rw [hob, encE_eq] at hk1
      rw [hob] at hde
      have n0 : (0 : Int) < ((ly.length + 1 : Nat) : Int) := by omega
      have hEl2 : (encV E).length = E.length * 2 := encV_len E
      have hEb : (E.length + 1) * 24 ≤ 140737488355328 := by omega
      refine TS.of [] fun Q hQ => ?_
      simp only [go_sem, Nat.reduceEqDiff, Nat.reduceBEq, Int.reduceToNat, Int.reduceLT, Int.reduceLE, Int.reduceEq, Nat.reduceLeDiff, Nat.reduceLT, Nat.reduceMul, Nat.reduceAdd, String.reduceEq, i0, i1, i2, i7, hm, hlt, hat, hlt7, eq_true k1, hxx, hes, n0, Nat.zero_lt_succ]
      refine cal_eq hk1 ?_
      simp only [go_sem, Nat.reduceEqDiff, Nat.reduceBEq, Int.reduceToNat, Int.reduceLT, Int.reduceLE, Int.reduceEq, Nat.reduceLeDiff, Nat.reduceLT, Nat.reduceMul, Nat.reduceAdd, String.reduceEq, i0, i1, i2, i7]
      refine cal_eq hde ?_
      simp only [go_sem, Nat.reduceEqDiff, Nat.reduceBEq, Int.reduceToNat, Int.reduceLT, Int.reduceLE, Int.reduceEq, Nat.reduceLeDiff, Nat.reduceLT, Nat.reduceMul, Nat.reduceAdd, String.reduceEq, i0, i1, i2, i7, hgr, hEl2, hEb, hw, Nat.reducePow]
      refine hQ .normal _ ?_; clear hQ Q
      have hE1 : (E ++ [(x.s, t)]).length = E.length + 1 := by simp
      have hw2 : slW (b.length + 1 + X.length) (E ++ [(x.s, t)]) = .sl (accK (b.length + 1 + X.length) 95 (E.length + 1)) (E.length + 1) (encV E ++ [ss x.s, ii t]) := by simp [slW, encV_app, encV]
      have h := hDend (E ++ [(x.s, t)]) S2 (rowsK b S2.dl.length (X1 X (E.length + 1))) hdl.1 (by simp) (fun _ => hS2) (by rw [hE1]; simp)
      rw [hob, hE1] at h
      have hn2 := hslot (E ++ [(x.s, t)]) S2 (fun _ => hS2) (B.length + (R.length + 1))
      rw [hw2, hE1] at hn2
      refine ⟨B.length + (R.length + 1), (rowsK b S2.dl.length (X1 X (E.length + 1))).length, (k + 1, E ++ [(x.s, t)], S2), by dsimp only; rw [hE1]; exact h, ?_, ⟨hlt, hrest, by dsimp only; rw [hE1]; omega, hd16, fun _ => hS2, fun h => absurd h hS2, Nat.le_trans hS0 hdl.1⟩, by dsimp only; omega⟩
      dsimp only
      rw [hw2]
      simp only [List.mem_cons, List.not_mem_nil, or_false, forall_eq_or_imp, forall_eq, hn2, and_true]
      simp [upd_apply, i0, i1, IV.np, np_sh, npTs]
    rw [if_neg k1] at hrest
    by_cases k6 : x.k = 6
    · rw [if_pos k6] at hrest
      obtain ⟨y, ly, hxx⟩ := hs1 (.inr k6)
      rw [hxx, List.getD_cons_zero] at hrest
      have hob : encT x = [ii x.k, ss x.s, .sl .sh (ly.length + 1) (ii y.k :: ii y.n :: ss y.s :: slE y.a :: ii y.p :: encEs ly), ii x.n, slT x.b, slT x.e, ii x.p] := by rw [encT_eq, hxx]; simp only [slE, hes, List.length_cons, List.cons_append, List.nil_append]
      have n0 : (0 : Int) < ((ly.length + 1 : Nat) : Int) := by omega
      have hn1 := (need_sim y 2 E S.ft (by rw [hxx, szs] at hxsz; omega) hEl).mem B (R ++ [.cells (encT x)]) (rowsK b S.dl.length (X1 X E.length)) (slD b.length S.dl) hnp
      generalize needE y 2 E S.ft = ft1 at hn1 hrest
      have hb1 := (ih (szt x.b) (by omega) x.b E ⟨S.dl, ft1⟩ (Nat.le_refl _) ⟨hab, by omega, hS16, hEne⟩).mem B (R ++ [.cells (encT x)]) b (X1 X E.length) hX1
      have hd2 := blockK_dl x.b E ⟨S.dl, ft1⟩
      generalize blockK x.b E ⟨S.dl, ft1⟩ = P2 at hb1 hrest hd2
      obtain ⟨E2, S2⟩ := P2
      dsimp only at hb1 hrest hd2
      have hb2 := (ih (szt x.e) (by omega) x.e E S2 (Nat.le_refl _) ⟨hae, by omega, hd2.2 hS16, fun h => by have := hEne h; omega⟩).mem B (R ++ [.cells (encT x)]) b (X1 X E.length) (fun h => hX1 (by omega))
      have hd3 := blockK_dl x.e E S2
      generalize blockK x.e E S2 = P3 at hb2 hrest hd3
      obtain ⟨E3, S3⟩ := P3
      dsimp only at hb2 hrest hd3
      have hle : S.dl.length ≤ S3.dl.length := Nat.le_trans hd2.1 hd3.1
      have h := hDend E S3 (rowsK b S3.dl.length (X1 X E.length)) hle (Nat.le_refl _) (fun h => by have := hEne h; omega) (by simp)
      rw [hob] at hn1 hb1 hb2 h
      rw [encE_eq] at hn1
      refine TS.of [] fun Q hQ => ?_
      simp only [go_sem, Nat.reduceEqDiff, Nat.reduceBEq, Int.reduceToNat, Int.reduceLT, Int.reduceLE, Int.reduceEq, Nat.reduceLeDiff, Nat.reduceLT, Nat.reduceMul, Nat.reduceAdd, String.reduceEq, i0, i1, i2, i7, hm, hlt, hat, hlt7, eq_false k1, eq_true k6, hxx, hes, n0, Nat.zero_lt_succ]
      refine cal_eq hn1 ?_
      simp only [go_sem, Nat.reduceEqDiff, Nat.reduceBEq, Int.reduceToNat, Int.reduceLT, Int.reduceLE, Int.reduceEq, Nat.reduceLeDiff, Nat.reduceLT, Nat.reduceMul, Nat.reduceAdd, String.reduceEq, i0, i1, i2, i7]
      refine cal_eq hb1 ?_
      simp only [go_sem, Nat.reduceEqDiff, Nat.reduceBEq, Int.reduceToNat, Int.reduceLT, Int.reduceLE, Int.reduceEq, Nat.reduceLeDiff, Nat.reduceLT, Nat.reduceMul, Nat.reduceAdd, String.reduceEq, i0, i1, i2, i7]
      refine cal_eq hb2 ?_
      simp only [go_sem, Nat.reduceEqDiff, Nat.reduceBEq, Int.reduceToNat, Int.reduceLT, Int.reduceLE, Int.reduceEq, Nat.reduceLeDiff, Nat.reduceLT, Nat.reduceMul, Nat.reduceAdd, String.reduceEq, i0, i1, i2, i7, hw]
      refine hQ .normal _ ?_; clear hQ Q
      have hn3 := hslot E S3 (fun h => by have := hEne h; omega) (B.length + (R.length + 1))
      refine ⟨B.length + (R.length + 1), (rowsK b S3.dl.length (X1 X E.length)).length, (k + 1, E, S3), h, ?_, ⟨hlt, hrest, by dsimp only; omega, hd3.2 (hd2.2 hS16), (fun h => by (try dsimp only at h ⊢); have := hEne h; omega), fun h => hSX (Nat.le_zero.1 (h ▸ hle)), Nat.le_trans hS0 hle⟩, by dsimp only; omega⟩
      dsimp only
      simp only [List.mem_cons, List.not_mem_nil, or_false, forall_eq_or_imp, forall_eq, hn3, and_true]
      simp [upd_apply, i0, i1, i2, IV.np, np_sh, npTs]
    rw [if_neg k6] at hrest
    by_cases k78 : x.k = 7 ∨ x.k = 8
    · rw [if_pos k78] at hrest
      have hde := (rdeclare_sim x.s x.p S (by omega)).mem B (R ++ [.cells (encT x)]) b (X1 X E.length) hX1
      have hdne := declare_ne x.s x.p S
      have hdl := declare_len x.s x.p S
      have hd16 := declare_16 x.s x.p S hS16
      generalize KS.declare x.s x.p S = S1 at hde hrest hdne hdl hd16
      have hS1 : S1.dl.length ≠ 0 := fun h => hdne (List.length_eq_zero_iff.1 h)
      have hf := (rfail_sim S1.ft 11 x.p).mem B (R ++ [.cells (encT x)]) (rowsK b S1.dl.length (X1 X E.length)) (slD b.length S1.dl) (fun no => slD_np no)
      have hcp2 := app_copy (b := b) (X := X1 X E.length) (n := S1.dl.length) (k := E.length) (fun _ => hS1)
      have hgr2 := app_grow (b := b) (X := X1 X E.length) (n := S1.dl.length) (k := E.length) hS1
      have hvv : slV (E ++ [(x.s, 1)]) = .sl .sh (E.length + 1) (encV E ++ [ss x.s, ii 1]) := by simp [slV, encV_app, encV]
      have hEl2 : (encV E).length = E.length * 2 := encV_len E
      have hEb : (E.length + 1) * 24 ≤ 140737488355328 := by omega
      have hEb0 : E.length * 24 ≤ 140737488355328 := by omega
      have hblk : ∀ S2 : KS, S2.dl = S1.dl → ∃ S3 : KS, (blockK x.b (E ++ [(x.s, 1)]) S2).2 = S3 ∧ S2.dl.length ≤ S3.dl.length ∧ S3.dl.length ≤ 16 ∧ ∃ r0, Sim 52 [.ptr B.length 0, slT x.b, .sl .sh (E.length + 1) (encV E ++ [ss x.s, ii 1])] ⟨FM B (slD b.length S1.dl) S2.ft (R ++ [.cells (encT x)]), rowsK b S1.dl.length (X1 (X1 X E.length) (E.length + 1))⟩ (fun z m' => z = r0 ∧ m' = ⟨FM B (slD b.length S3.dl) S3.ft (R ++ [.cells (encT x)]), rowsK b S3.dl.length (X1 (X1 X E.length) (E.length + 1))⟩) := fun S2 h2 => by
        have hb1 := (ih (szt x.b) (by omega) x.b (E ++ [(x.s, 1)]) S2 (Nat.le_refl _) ⟨hab, by simp; omega, by rw [h2]; exact hd16, fun _ => by rw [h2]; exact hS1⟩).mem B (R ++ [.cells (encT x)]) b (X1 (X1 X E.length) (E.length + 1)) (fun h => absurd (h2 ▸ h) hS1)
        have hd2 := blockK_dl x.b (E ++ [(x.s, 1)]) S2
        rw [hvv, h2] at hb1
        exact ⟨_, rfl, hd2.1, hd2.2 (by rw [h2]; exact hd16), _, hb1⟩
      rw [encT_eq] at hde hf
      by_cases hN : 64 < x.n
      · by_cases k7 : x.k = 7
        · rw [if_pos hN] at hrest
          obtain ⟨S3, hS3, hd3, hd4, r0, hb3⟩ := hblk ⟨S1.dl, failF S1.ft 11 x.p⟩ rfl
          rw [hS3] at hrest
          dsimp only at hd3 hb3 hrest
          have hle : S.dl.length ≤ S3.dl.length := Nat.le_trans hdl.1 hd3
          have h := hDend E S3 (rowsK b S3.dl.length (X1 (X1 X E.length) (E.length + 1))) hle (Nat.le_refl _) (fun _ => by omega) (rows_take (fun _ => by omega))
          rw [encT_eq] at hb3 h
          refine TS.of [] fun Q hQ => ?_
          simp only [go_sem, Nat.reduceEqDiff, Nat.reduceBEq, Int.reduceToNat, Int.reduceLT, Int.reduceLE, Int.reduceEq, Nat.reduceLeDiff, Nat.reduceLT, Nat.reduceMul, Nat.reduceAdd, String.reduceEq, i0, i1, i2, i7, hm, hlt, hat, hlt7, eq_false k1, eq_false k6, eq_true k7]
          refine cal_eq hde ?_
          simp only [go_sem, Nat.reduceEqDiff, Nat.reduceBEq, Int.reduceToNat, Int.reduceLT, Int.reduceLE, Int.reduceEq, Nat.reduceLeDiff, Nat.reduceLT, Nat.reduceMul, Nat.reduceAdd, String.reduceEq, i0, i1, i2, i7, hN]
          refine cal_eq hf ?_
          simp only [go_sem, Nat.reduceEqDiff, Nat.reduceBEq, Int.reduceToNat, Int.reduceLT, Int.reduceLE, Int.reduceEq, Nat.reduceLeDiff, Nat.reduceLT, Nat.reduceMul, Nat.reduceAdd, String.reduceEq, i0, i1, i2, i7]
          refine drn_of ⟨[], [98, 103], [B.length + (R.length + 1)]⟩ [0, 0, 2, 0, 0, 24, 0, 64, 192, 448, 1016, 2047] (by kernel_rfl) ?_
          simp only [go_sem, Nat.reduceEqDiff, Nat.reduceBEq, Int.reduceToNat, Int.reduceLT, Int.reduceLE, Int.reduceEq, Nat.reduceLeDiff, Nat.reduceLT, Nat.reduceMul, Nat.reduceAdd, String.reduceEq, i0, i1, i2, i7, hcp2, hgr2, hEl2, hEb, hEb0, encV_one, encV_sh, Nat.zero_add, Nat.zero_mul]
          refine cald_eq hb3 ?_
          simp only [go_sem, Nat.reduceEqDiff, Nat.reduceBEq, Int.reduceToNat, Int.reduceLT, Int.reduceLE, Int.reduceEq, Nat.reduceLeDiff, Nat.reduceLT, Nat.reduceMul, Nat.reduceAdd, String.reduceEq, i0, i1, i2, i7, hw]
          refine hQ .normal _ ?_; clear hQ Q
          have hn3 := hslot E S3 (fun _ => by omega) (B.length + (R.length + 1))
          refine ⟨B.length + (R.length + 1), (rowsK b S3.dl.length (X1 X E.length)).length, (k + 1, E, S3), h, ?_, ⟨hlt, hrest, by dsimp only; omega, hd4, (fun _ => by (try dsimp only); omega), fun h => hSX (Nat.le_zero.1 (h ▸ hle)), Nat.le_trans hS0 hle⟩, by dsimp only; omega⟩
          dsimp only
          simp only [List.mem_cons, List.not_mem_nil, or_false, forall_eq_or_imp, forall_eq, hn3, and_true]
          simp [upd_apply, i0, i1, i2, IV.np, np_sh, npTs]
        · have k8 : x.k = 8 := by omega
          rw [if_pos hN] at hrest
          obtain ⟨S3, hS3, hd3, hd4, r0, hb3⟩ := hblk ⟨S1.dl, failF S1.ft 11 x.p⟩ rfl
          rw [hS3] at hrest
          dsimp only at hd3 hb3 hrest
          have hle : S.dl.length ≤ S3.dl.length := Nat.le_trans hdl.1 hd3
          have h := hDend E S3 (rowsK b S3.dl.length (X1 (X1 X E.length) (E.length + 1))) hle (Nat.le_refl _) (fun _ => by omega) (rows_take (fun _ => by omega))
          rw [encT_eq] at hb3 h
          refine TS.of [] fun Q hQ => ?_
          simp only [go_sem, Nat.reduceEqDiff, Nat.reduceBEq, Int.reduceToNat, Int.reduceLT, Int.reduceLE, Int.reduceEq, Nat.reduceLeDiff, Nat.reduceLT, Nat.reduceMul, Nat.reduceAdd, String.reduceEq, i0, i1, i2, i7, hm, hlt, hat, hlt7, eq_false k1, eq_false k6, eq_false k7, eq_true k8]
          refine cal_eq hde ?_
          simp only [go_sem, Nat.reduceEqDiff, Nat.reduceBEq, Int.reduceToNat, Int.reduceLT, Int.reduceLE, Int.reduceEq, Nat.reduceLeDiff, Nat.reduceLT, Nat.reduceMul, Nat.reduceAdd, String.reduceEq, i0, i1, i2, i7, hN]
          refine cal_eq hf ?_
          simp only [go_sem, Nat.reduceEqDiff, Nat.reduceBEq, Int.reduceToNat, Int.reduceLT, Int.reduceLE, Int.reduceEq, Nat.reduceLeDiff, Nat.reduceLT, Nat.reduceMul, Nat.reduceAdd, String.reduceEq, i0, i1, i2, i7]
          refine drn_of ⟨[], [98, 103], [B.length + (R.length + 1)]⟩ [0, 0, 2, 0, 0, 24, 0, 64, 192, 448, 1016, 2047] (by kernel_rfl) ?_
          simp only [go_sem, Nat.reduceEqDiff, Nat.reduceBEq, Int.reduceToNat, Int.reduceLT, Int.reduceLE, Int.reduceEq, Nat.reduceLeDiff, Nat.reduceLT, Nat.reduceMul, Nat.reduceAdd, String.reduceEq, i0, i1, i2, i7, hcp2, hgr2, hEl2, hEb, hEb0, encV_one, encV_sh, Nat.zero_add, Nat.zero_mul]
          refine cald_eq hb3 ?_
          simp only [go_sem, Nat.reduceEqDiff, Nat.reduceBEq, Int.reduceToNat, Int.reduceLT, Int.reduceLE, Int.reduceEq, Nat.reduceLeDiff, Nat.reduceLT, Nat.reduceMul, Nat.reduceAdd, String.reduceEq, i0, i1, i2, i7, hw]
          refine hQ .normal _ ?_; clear hQ Q
          have hn3 := hslot E S3 (fun _ => by omega) (B.length + (R.length + 1))
          refine ⟨B.length + (R.length + 1), (rowsK b S3.dl.length (X1 X E.length)).length, (k + 1, E, S3), h, ?_, ⟨hlt, hrest, by dsimp only; omega, hd4, (fun _ => by (try dsimp only); omega), fun h => hSX (Nat.le_zero.1 (h ▸ hle)), Nat.le_trans hS0 hle⟩, by dsimp only; omega⟩
          dsimp only
          simp only [List.mem_cons, List.not_mem_nil, or_false, forall_eq_or_imp, forall_eq, hn3, and_true]
          simp [upd_apply, i0, i1, i2, IV.np, np_sh, npTs]
      · by_cases k7 : x.k = 7
        · rw [if_neg hN] at hrest
          obtain ⟨S3, hS3, hd3, hd4, r0, hb3⟩ := hblk S1 rfl
          rw [hS3] at hrest
          dsimp only at hd3 hb3 hrest
          have hle : S.dl.length ≤ S3.dl.length := Nat.le_trans hdl.1 hd3
          have h := hDend E S3 (rowsK b S3.dl.length (X1 (X1 X E.length) (E.length + 1))) hle (Nat.le_refl _) (fun _ => by omega) (rows_take (fun _ => by omega))
          rw [encT_eq] at hb3 h
          refine TS.of [] fun Q hQ => ?_
          simp only [go_sem, Nat.reduceEqDiff, Nat.reduceBEq, Int.reduceToNat, Int.reduceLT, Int.reduceLE, Int.reduceEq, Nat.reduceLeDiff, Nat.reduceLT, Nat.reduceMul, Nat.reduceAdd, String.reduceEq, i0, i1, i2, i7, hm, hlt, hat, hlt7, eq_false k1, eq_false k6, eq_true k7]
          refine cal_eq hde ?_
          simp only [go_sem, Nat.reduceEqDiff, Nat.reduceBEq, Int.reduceToNat, Int.reduceLT, Int.reduceLE, Int.reduceEq, Nat.reduceLeDiff, Nat.reduceLT, Nat.reduceMul, Nat.reduceAdd, String.reduceEq, i0, i1, i2, i7, hN]
          refine drn_of ⟨[], [98, 103], [B.length + (R.length + 1)]⟩ [0, 0, 2, 0, 0, 24, 0, 64, 192, 448, 1016, 2047] (by kernel_rfl) ?_
          simp only [go_sem, Nat.reduceEqDiff, Nat.reduceBEq, Int.reduceToNat, Int.reduceLT, Int.reduceLE, Int.reduceEq, Nat.reduceLeDiff, Nat.reduceLT, Nat.reduceMul, Nat.reduceAdd, String.reduceEq, i0, i1, i2, i7, hcp2, hgr2, hEl2, hEb, hEb0, encV_one, encV_sh, Nat.zero_add, Nat.zero_mul]
          refine cald_eq hb3 ?_
          simp only [go_sem, Nat.reduceEqDiff, Nat.reduceBEq, Int.reduceToNat, Int.reduceLT, Int.reduceLE, Int.reduceEq, Nat.reduceLeDiff, Nat.reduceLT, Nat.reduceMul, Nat.reduceAdd, String.reduceEq, i0, i1, i2, i7, hw]
          refine hQ .normal _ ?_; clear hQ Q
          have hn3 := hslot E S3 (fun _ => by omega) (B.length + (R.length + 1))
          refine ⟨B.length + (R.length + 1), (rowsK b S3.dl.length (X1 X E.length)).length, (k + 1, E, S3), h, ?_, ⟨hlt, hrest, by dsimp only; omega, hd4, (fun _ => by (try dsimp only); omega), fun h => hSX (Nat.le_zero.1 (h ▸ hle)), Nat.le_trans hS0 hle⟩, by dsimp only; omega⟩
          dsimp only
          simp only [List.mem_cons, List.not_mem_nil, or_false, forall_eq_or_imp, forall_eq, hn3, and_true]
          simp [upd_apply, i0, i1, i2, IV.np, np_sh, npTs]
        · have k8 : x.k = 8 := by omega
          rw [if_neg hN] at hrest
          obtain ⟨S3, hS3, hd3, hd4, r0, hb3⟩ := hblk S1 rfl
          rw [hS3] at hrest
          dsimp only at hd3 hb3 hrest
          have hle : S.dl.length ≤ S3.dl.length := Nat.le_trans hdl.1 hd3
          have h := hDend E S3 (rowsK b S3.dl.length (X1 (X1 X E.length) (E.length + 1))) hle (Nat.le_refl _) (fun _ => by omega) (rows_take (fun _ => by omega))
          rw [encT_eq] at hb3 h
          refine TS.of [] fun Q hQ => ?_
          simp only [go_sem, Nat.reduceEqDiff, Nat.reduceBEq, Int.reduceToNat, Int.reduceLT, Int.reduceLE, Int.reduceEq, Nat.reduceLeDiff, Nat.reduceLT, Nat.reduceMul, Nat.reduceAdd, String.reduceEq, i0, i1, i2, i7, hm, hlt, hat, hlt7, eq_false k1, eq_false k6, eq_false k7, eq_true k8]
          refine cal_eq hde ?_
          simp only [go_sem, Nat.reduceEqDiff, Nat.reduceBEq, Int.reduceToNat, Int.reduceLT, Int.reduceLE, Int.reduceEq, Nat.reduceLeDiff, Nat.reduceLT, Nat.reduceMul, Nat.reduceAdd, String.reduceEq, i0, i1, i2, i7, hN]
          refine drn_of ⟨[], [98, 103], [B.length + (R.length + 1)]⟩ [0, 0, 2, 0, 0, 24, 0, 64, 192, 448, 1016, 2047] (by kernel_rfl) ?_
          simp only [go_sem, Nat.reduceEqDiff, Nat.reduceBEq, Int.reduceToNat, Int.reduceLT, Int.reduceLE, Int.reduceEq, Nat.reduceLeDiff, Nat.reduceLT, Nat.reduceMul, Nat.reduceAdd, String.reduceEq, i0, i1, i2, i7, hcp2, hgr2, hEl2, hEb, hEb0, encV_one, encV_sh, Nat.zero_add, Nat.zero_mul]
          refine cald_eq hb3 ?_
          simp only [go_sem, Nat.reduceEqDiff, Nat.reduceBEq, Int.reduceToNat, Int.reduceLT, Int.reduceLE, Int.reduceEq, Nat.reduceLeDiff, Nat.reduceLT, Nat.reduceMul, Nat.reduceAdd, String.reduceEq, i0, i1, i2, i7, hw]
          refine hQ .normal _ ?_; clear hQ Q
          have hn3 := hslot E S3 (fun _ => by omega) (B.length + (R.length + 1))
          refine ⟨B.length + (R.length + 1), (rowsK b S3.dl.length (X1 X E.length)).length, (k + 1, E, S3), h, ?_, ⟨hlt, hrest, by dsimp only; omega, hd4, (fun _ => by (try dsimp only); omega), fun h => hSX (Nat.le_zero.1 (h ▸ hle)), Nat.le_trans hS0 hle⟩, by dsimp only; omega⟩
          dsimp only
          simp only [List.mem_cons, List.not_mem_nil, or_false, forall_eq_or_imp, forall_eq, hn3, and_true]
          simp [upd_apply, i0, i1, i2, IV.np, np_sh, npTs]
    rw [if_neg k78] at hrest
    obtain ⟨y, z, ly, hxx⟩ := hs2 (by omega)
    rw [hxx, List.getD_cons_zero, List.getD_cons_succ, List.getD_cons_zero] at hrest
    have hob : encT x = [ii x.k, ss x.s, .sl .sh (ly.length + 1 + 1) (ii y.k :: ii y.n :: ss y.s :: slE y.a :: ii y.p :: ii z.k :: ii z.n :: ss z.s :: slE z.a :: ii z.p :: encEs ly), ii x.n, slT x.b, slT x.e, ii x.p] := by rw [encT_eq, hxx]; simp only [slE, hes, List.length_cons, List.cons_append, List.nil_append]
    rw [hxx, szs, szs] at hxsz
    have n0 : (0 : Int) < ((ly.length + 1 + 1 : Nat) : Int) := by omega
    have n1 : (1 : Int) < ((ly.length + 1 + 1 : Nat) : Int) := by omega
    have n5 : 5 < (encEs ly).length + 1 + 1 + 1 + 1 + 1 + 1 + 1 + 1 + 1 + 1 := by omega
    have hn1 := (need_sim y 1 E S.ft (by omega) hEl).mem B (R ++ [.cells (encT x)]) (rowsK b S.dl.length (X1 X E.length)) (slD b.length S.dl) hnp
    generalize needE y 1 E S.ft = ft1 at hn1 hrest
    have hn2 := (need_sim z 1 E ft1 (by omega) hEl).mem B (R ++ [.cells (encT x)]) (rowsK b S.dl.length (X1 X E.length)) (slD b.length S.dl) hnp
    generalize needE z 1 E ft1 = ft2 at hn2 hrest
    have hle : S.dl.length ≤ (⟨S.dl, ft2⟩ : KS).dl.length := Nat.le_refl _
    have h := hDend E ⟨S.dl, ft2⟩ (rowsK b S.dl.length (X1 X E.length)) (Nat.le_refl _) (Nat.le_refl _) hEne (by simp)
    rw [hob] at hn1 hn2 h
    rw [encE_eq] at hn1 hn2
    have k7 : ¬ x.k = 7 := by omega
    have k8 : ¬ x.k = 8 := by omega
    refine TS.of [] fun Q hQ => ?_
    simp only [go_sem, Nat.reduceEqDiff, Nat.reduceBEq, Int.reduceToNat, Int.reduceLT, Int.reduceLE, Int.reduceEq, Nat.reduceLeDiff, Nat.reduceLT, Nat.reduceMul, Nat.reduceAdd, String.reduceEq, i0, i1, i2, i7, hm, hlt, hat, hlt7, eq_false k1, eq_false k6, eq_false k7, eq_false k8, hxx, hes, n0, n1, n5, Nat.zero_lt_succ]
    refine cal_eq hn1 ?_
    simp only [go_sem, Nat.reduceEqDiff, Nat.reduceBEq, Int.reduceToNat, Int.reduceLT, Int.reduceLE, Int.reduceEq, Nat.reduceLeDiff, Nat.reduceLT, Nat.reduceMul, Nat.reduceAdd, String.reduceEq, i0, i1, i2, i7, n0, n1, n5, Nat.zero_lt_succ]
    refine cal_eq hn2 ?_
    simp only [go_sem, Nat.reduceEqDiff, Nat.reduceBEq, Int.reduceToNat, Int.reduceLT, Int.reduceLE, Int.reduceEq, Nat.reduceLeDiff, Nat.reduceLT, Nat.reduceMul, Nat.reduceAdd, String.reduceEq, i0, i1, i2, i7, hw]
    refine hQ .normal _ ?_; clear hQ Q
    have hn3 := hslot E (⟨S.dl, ft2⟩ : KS) hEne (B.length + (R.length + 1))
    refine ⟨B.length + (R.length + 1), (rowsK b (⟨S.dl, ft2⟩ : KS).dl.length (X1 X E.length)).length, (k + 1, E, (⟨S.dl, ft2⟩ : KS)), h, ?_, ⟨hlt, hrest, by dsimp only; omega, hS16, hEne, fun h => hSX (Nat.le_zero.1 (h ▸ hle)), Nat.le_trans hS0 hle⟩, by dsimp only; omega⟩
    dsimp only
    simp only [List.mem_cons, List.not_mem_nil, or_false, forall_eq_or_imp, forall_eq, hn3, and_true]
    simp [upd_apply, i0, i1, i2, IV.np, np_sh, npTs]
  · refine TS.of [] fun Q hQ => ?_
    simp only [go_sem, Nat.reduceEqDiff, Nat.reduceBEq, Int.reduceToNat, Int.reduceLT, Int.reduceLE, Int.reduceEq, Nat.reduceLeDiff, Nat.reduceLT, Nat.reduceMul, Nat.reduceAdd, String.reduceEq, i0, i1, i2, i7, hm, hlt]
    refine hQ (.exit 0) _ ?_; clear hQ Q
    rw [List.drop_eq_nil_of_le (by omega), blockK] at hrest
    subst hrest
    refine TS.of [] fun Q hQ => ?_
    simp only [go_sem, Nat.reduceEqDiff, Nat.reduceBEq, Int.reduceToNat, Int.reduceLT, Int.reduceLE, Int.reduceEq, Nat.reduceLeDiff, Nat.reduceLT, Nat.reduceMul, Nat.reduceAdd, String.reduceEq, i2]
    refine hQ .ret _ ?_; clear hQ Q; refine post_ret _ _ (slV E) ?_ ?_ (DropW.fk0 B (slD b.length s0.dl) (slD b.length S.dl) s0.ft S.ft R (rowsK b s0.dl.length X) (rowsK b S.dl.length X) (rowsK b S.dl.length (X1 X E.length)) ?_ (rows_take hEne) (fun no => slD_np no)) ⟨rfl, rfl⟩
    · simp only [go_sem, Nat.reduceEqDiff, Nat.reduceBEq, Int.reduceToNat, Int.reduceLT, Int.reduceLE, Int.reduceEq, Nat.reduceLeDiff, Nat.reduceLT, Nat.reduceMul, Nat.reduceAdd, String.reduceEq]
    · simp [IV.np, npV, np_sh]
    · obtain ⟨d, hd⟩ := Nat.exists_eq_add_of_le hS0
      rw [hd]; exact rowsK_le hX
theorem kblock_all : ∀ N, N < 900000 → KBC N := by
  intro N
  induction N using Nat.strongRecOn with
  | ind N ih => intro hN; exact kblock_step hN fun M h => ih M h (by omega)
theorem kblock_sim {l : List Stmt} {env : Env} {s : KS} (hg : KG l env s) : SimK 52 [slT l, slV env] s (slV (blockK l env s).1) (blockK l env s).2 := kblock_all (szt l) (by have := hg.len; omega) l env s (Nat.le_refl _) hg
end Go.Proofs.Ytphjldhdnmoolaa.A
/- The walks of some functions over the abstract machine. -/
namespace Go.Proofs.Ytphjldhdnmoolaa.A
open Go
structure OkE (cs : CS) (E : Env) : Prop where
  ft : cs.ft = none
  kn : ∀ s, getM s cs.kn = look s E
  pos : ∀ s v, look s E = some v → 0 < v
def OutE (e : Expr) (E : Env) (cs : CS) : Prop := ((cexpr e cs).2.2 = { cs with rd := cs.rd || cellsE e } ∧ (kindE e E (0, 0)).2 = (0, 0) ∧ (kindE e E (0, 0)).1 = (cexpr e cs).1 ∧ 0 < (cexpr e cs).1) ∨ ∃ c a, c ≠ 0 ∧ (cexpr e cs).2.2.ft = some (c, a) ∧ (kindE e E (0, 0)).2 = (c, a)
theorem fail_none_ft {cs : CS} (h : cs.ft = none) (c a : Int) : (cs.fail c a).ft = some (c, a) := by rw [fail_none h]
theorem rd_same (cs : CS) (b : Bool) (h : b = false) : ({ cs with rd := cs.rd || b } : CS) = cs := by rw [h, Bool.or_false]
theorem OkE.rd {cs : CS} {E : Env} (h : OkE cs E) (b : Bool) : OkE { cs with rd := b } E := ⟨h.ft, h.kn, h.pos⟩
theorem args_eq {E : Env} {k : Int} {s : Bytes} {kind : Int} (hk : kind ≠ 0) (hW : ∀ i T, wantsP k s i T = kind) : ∀ (l : List Expr), (∀ e ∈ l, ∀ cs, OkE cs E → OutE e E cs) → ∀ (cs : CS) (i : Nat) (T : List Int), OkE cs E →
    ((cargs l kind cs).2 = { cs with rd := cs.rd || cells l } ∧ kindA k s l E i T (0, 0) = (0, 0)) ∨ ∃ c a, c ≠ 0 ∧ (cargs l kind cs).2.ft = some (c, a) ∧ kindA k s l E i T (0, 0) = (c, a)
  | [], _, cs, i, T, h => .inl ⟨(rd_same cs _ rfl).symm, rfl⟩
  | e :: l, he, cs, i, T, h => by
    have ih := args_eq hk hW l (fun x hx => he x (List.mem_cons_of_mem _ hx))
    rw [cargs, kindA]
    dsimp only
    rw [hW]
    rcases he e (List.mem_cons_self ..) cs h with ⟨h1, h2, h3, h4⟩ | ⟨c, a, hc, h1, h2⟩
    · rw [h1, h2, h3]
      by_cases ht : (cexpr e cs).1 = kind
      · rw [if_pos ht, if_neg (fun x => x.2 ht)]
        rcases ih { cs with rd := cs.rd || cellsE e } (i + 1) (T ++ [(cexpr e cs).1]) (h.rd _) with ⟨g1, g2⟩ | g
        · exact .inl ⟨by rw [g1, cells, Bool.or_assoc], g2⟩
        · exact .inr g
      · rw [if_neg ht, if_pos ⟨hk, ht⟩, failF_0]
        have hf : (CS.fail 10 e.p { cs with rd := cs.rd || cellsE e }).ft = some (10, e.p) := by rw [fail_none (h.rd _).ft]
        exact .inr ⟨10, e.p, by decide, cargs_ft l kind _ hf, kindA_ft E (st := (10, e.p)) (show (10 : Int) ≠ 0 by decide) k s l _ _⟩
    · rw [h2]
      have h5 : (if kind ≠ 0 ∧ (kindE e E (0, 0)).1 ≠ kind then failF (c, a) 10 e.p else (c, a)) = (c, a) := by
        split
        · exact failF_ne hc _ _
        · rfl
      rw [h5]
      refine .inr ⟨c, a, hc, cargs_ft l kind _ ?_, kindA_ft E (st := (c, a)) hc k s l _ _⟩
      split
      · exact h1
      · rw [fail_some h1]; exact h1
theorem arith_of {s : Bytes} (h : level s ≠ 0) (h1 : ¬ (s = qAnd ∨ s = qOr)) (h2 : ¬ (s = qLt ∨ s = qLe ∨ s = qGt ∨ s = qGe)) (h3 : ¬ (s = qEq ∨ s = qNe)) : arith s = true := by
  unfold level at h
  unfold arith
  simp only [Bool.or_eq_true, decide_eq_true_eq]
  by_cases e1 : s = qOr
  · exact absurd (.inr e1) h1
  rw [if_neg e1] at h
  by_cases e2 : s = qAnd
  · exact absurd (.inl e2) h1
  rw [if_neg e2, if_neg (by rintro (h | h | h | h | h | h); exact h2 (.inl h); exact h2 (.inr (.inl h)); exact h2 (.inr (.inr (.inl h))); exact h2 (.inr (.inr (.inr h))); exact h3 (.inl h); exact h3 (.inr h))] at h
  by_cases e4 : s = qAdd ∨ s = qSub
  · rcases e4 with e | e
    · exact .inl e
    · exact .inr (.inl e)
  rw [if_neg e4] at h
  by_cases e5 : s = qMul ∨ s = qDiv ∨ s = qRem
  · exact .inr (.inr e5)
  · rw [if_neg e5] at h; exact absurd rfl h
theorem expr_same : ∀ (N : Nat) (e : Expr), szE e ≤ N → fitE e → ∀ (E : Env) (cs : CS), OkE cs E → OutE e E cs := by
  intro N
  induction N using Nat.strongRecOn with
  | ind N ih =>
  intro e hN hfit E cs hok
  obtain ⟨k, n, s, a, p⟩ := e
  simp only [szE] at hN
  have hsub : ∀ x ∈ a, ∀ cs, OkE cs E → OutE x E cs := fun x hx cs h => by
    obtain ⟨j, hj⟩ := List.mem_iff_getElem?.1 hx
    have := szE_at hj
    exact ih (szE x) (by omega) x (Nat.le_refl _) (fitEs_mem hfit.1 x hx) E cs h
  unfold OutE
  obtain ⟨_, hf⟩ := hfit
  rw [cexpr, kindE, cellsE]
  rcases hf with ⟨rfl, rfl⟩ | ⟨rfl, rfl⟩ | ⟨hk, x, rfl⟩ | ⟨rfl, ⟨x, y, rfl⟩, hlev⟩
  · rw [if_pos rfl, if_neg (by decide), if_neg (by decide), if_neg (by decide)]
    exact .inl ⟨(rd_same cs _ rfl).symm, rfl, rfl, (by decide : (0 : Int) < 1)⟩
  · rw [if_neg (by decide), if_pos rfl, if_pos rfl]
    by_cases ht : s = qTrue ∨ s = qFalse
    · rw [if_pos ht, if_pos ht]; exact .inl ⟨(rd_same cs _ rfl).symm, rfl, rfl, by first | exact (by decide : (0 : Int) < 1) | exact (by decide : (0 : Int) < 2)⟩
    · rw [if_neg ht, if_neg ht, hok.kn s]
      cases hl : look s E with
      | some v => exact .inl ⟨(rd_same cs _ rfl).symm, rfl, rfl, hok.pos s v hl⟩
      | none =>
        refine .inr ⟨9, p, by decide, ?_, rfl⟩
        dsimp only
        rw [fail_none hok.ft]
  · rcases hk with rfl | rfl | rfl
    · rw [if_neg (by decide), if_neg (by decide), if_pos rfl, if_neg (by decide), if_neg (by decide), if_neg (by decide)]
      rcases args_eq (kind := 1) (k := 3) (s := s) (by decide) (fun i T => by simp [wantsP]) [x] hsub { cs with rd := true } 0 [] (hok.rd _) with ⟨g1, g2⟩ | ⟨c, a, hc, g1, g2⟩
      · exact .inl ⟨by dsimp only; rw [g1]; simp, g2, rfl, by first | exact (by decide : (0 : Int) < 1) | exact (by decide : (0 : Int) < 2)⟩
      · exact .inr ⟨c, a, hc, g1, g2⟩
    · rw [if_neg (by decide), if_neg (by decide), if_neg (by decide), if_pos rfl, if_neg (by decide), if_pos rfl]
      rcases args_eq (kind := 2) (k := 4) (s := s) (by decide) (fun i T => by simp [wantsP]) [x] hsub cs 0 [] hok with ⟨g1, g2⟩ | ⟨c, a, hc, g1, g2⟩
      · exact .inl ⟨by dsimp only; rw [g1]; simp, g2, rfl, by first | exact (by decide : (0 : Int) < 1) | exact (by decide : (0 : Int) < 2)⟩
      · exact .inr ⟨c, a, hc, g1, g2⟩
    · rw [if_neg (by decide), if_neg (by decide), if_neg (by decide), if_neg (by decide), if_pos rfl, if_neg (by decide), if_neg (by decide), if_neg (by decide)]
      rcases args_eq (kind := 1) (k := 5) (s := s) (by decide) (fun i T => by simp [wantsP]) [x] hsub cs 0 [] hok with ⟨g1, g2⟩ | ⟨c, a, hc, g1, g2⟩
      · exact .inl ⟨by dsimp only; rw [g1]; simp, g2, rfl, by first | exact (by decide : (0 : Int) < 1) | exact (by decide : (0 : Int) < 2)⟩
      · exact .inr ⟨c, a, hc, g1, g2⟩
  · rw [if_neg (show ¬ (6 : Int) = 1 by decide), if_neg (show ¬ (6 : Int) = 2 by decide), if_neg (show ¬ (6 : Int) = 3 by decide), if_neg (show ¬ (6 : Int) = 4 by decide), if_neg (show ¬ (6 : Int) = 5 by decide), if_neg (show ¬ (6 : Int) = 2 by decide), if_neg (show ¬ (6 : Int) = 4 by decide)]
    by_cases s1 : s = qAnd ∨ s = qOr
    · have har : arith s = false := by rcases s1 with rfl | rfl <;> decide
      rw [if_pos s1, har]
      rcases args_eq (kind := 2) (k := 6) (s := s) (by decide) (fun i T => by simp [wantsP, s1]) [x, y] hsub cs 0 [] hok with ⟨g1, g2⟩ | ⟨c, a, hc, g1, g2⟩
      · exact .inl ⟨by dsimp only; rw [g1]; simp, g2, rfl, by first | exact (by decide : (0 : Int) < 1) | exact (by decide : (0 : Int) < 2)⟩
      · exact .inr ⟨c, a, hc, g1, g2⟩
    rw [if_neg s1]
    by_cases s2 : s = qLt ∨ s = qLe ∨ s = qGt ∨ s = qGe
    · have har : arith s = false := by rcases s2 with rfl | rfl | rfl | rfl <;> decide
      have h3 : ¬ (s = qEq ∨ s = qNe) := by clear har; rcases s2 with rfl | rfl | rfl | rfl <;> decide
      rw [if_pos s2, har]
      rcases args_eq (kind := 1) (k := 6) (s := s) (by decide) (fun i T => by simp [wantsP, s1, h3]) [x, y] hsub cs 0 [] hok with ⟨g1, g2⟩ | ⟨c, a, hc, g1, g2⟩
      · exact .inl ⟨by dsimp only; rw [g1]; simp, g2, rfl, by first | exact (by decide : (0 : Int) < 1) | exact (by decide : (0 : Int) < 2)⟩
      · exact .inr ⟨c, a, hc, g1, g2⟩
    rw [if_neg s2]
    by_cases s3 : s = qEq ∨ s = qNe
    · have har : arith s = false := by rcases s3 with rfl | rfl <;> decide
      rw [if_pos s3, if_pos (show [x, y].length = 2 from rfl), har, ceq_two]
      have hw0 : ∀ T, wantsP 6 s 0 T = 0 := fun T => by simp [wantsP, s1, s3]
      have hw1 : ∀ t u, wantsP 6 s 1 [t, u] = t := fun t u => by simp [wantsP, s1, s3]
      have hkA : kindA 6 s [x, y] E 0 [] (0, 0) = (if (kindE x E (0, 0)).1 ≠ 0 ∧ (kindE y E (kindE x E (0, 0)).2).1 ≠ (kindE x E (0, 0)).1 then failF (kindE y E (kindE x E (0, 0)).2).2 10 y.p else (kindE y E (kindE x E (0, 0)).2).2) := by
        simp only [kindA, List.nil_append, hw0, ne_eq, not_true_eq_false, false_and, if_false, List.cons_append, hw1]
      rw [hkA]
      simp only [Bool.false_eq_true, if_false, if_true]
      rcases hsub x (by simp) cs hok with ⟨g1, g2, g3, g4⟩ | ⟨c, a, hc, g1, g2⟩
      · rw [g1, g2, g3]
        rcases hsub y (by simp) { cs with rd := cs.rd || cellsE x } (hok.rd _) with ⟨q1, q2, q3, q4⟩ | ⟨c, a, hc, q1, q2⟩
        · unfold cwant
          dsimp only
          rw [q1, q2, q3]
          by_cases ht : (cexpr y { cs with rd := cs.rd || cellsE x }).1 = (cexpr x cs).1
          · rw [if_pos ht, if_neg (fun h => h.2 ht)]
            exact .inl ⟨by simp [cells, Bool.or_assoc], rfl, by first | rfl | trivial, by first | exact (by decide : (0 : Int) < 1) | exact (by decide : (0 : Int) < 2)⟩
          · rw [if_neg ht, if_pos ⟨by omega, ht⟩, failF_0]
            exact .inr ⟨10, y.p, by decide, fail_none_ft (cs := { cs with rd := _ }) (by exact hok.ft) _ _, rfl⟩
        · rw [q2]
          refine .inr ⟨c, a, hc, ?_, ?_⟩
          · unfold cwant; dsimp only
            split
            · exact q1
            · rw [fail_some q1]; exact q1
          · split
            · exact failF_ne hc _ _
            · rfl
      · refine .inr ⟨c, a, hc, cwant_ft y _ _ g1, ?_⟩
        rw [g2, kindE_ft E (st := (c, a)) hc y]
        split
        · exact failF_ne hc _ _
        · rfl
    · have har := arith_of hlev s1 s2 s3
      rw [if_neg s3, har]
      rcases args_eq (kind := 1) (k := 6) (s := s) (by decide) (fun i T => by simp [wantsP, s1, s3]) [x, y] hsub cs 0 [] hok with ⟨g1, g2⟩ | ⟨c, a, hc, g1, g2⟩
      · exact .inl ⟨by dsimp only; rw [g1]; simp, g2, rfl, by first | exact (by decide : (0 : Int) < 1) | exact (by decide : (0 : Int) < 2)⟩
      · exact .inr ⟨c, a, hc, g1, g2⟩
theorem expr_eq {e : Expr} (h : fitE e) {E : Env} {cs : CS} (ho : OkE cs E) : OutE e E cs := expr_same _ e (Nat.le_refl _) h E cs ho
end Go.Proofs.Ytphjldhdnmoolaa.A
/- The walks of some functions over the abstract machine. -/
namespace Go.Proofs.Ytphjldhdnmoolaa.A
open Go
/-! ref08: Check -/
def declK : List Bytes → Env → KS → Env × KS
  | [], E, s => (E, s)
  | p :: l, E, s => declK l (E ++ [(p, 1)]) (s.declare p 0)
def needsK (want : Int) : List Expr → Env → Int → Int × Int → Int × (Int × Int)
  | [], _, n, st => (n, st)
  | e :: l, E, n, st => needsK want l E (IntKind.i64.wrap (n + sizeE e)) (needE e want E st)
abbrev KS0 : KS := ⟨[], (0, 0)⟩
def rP (d : Def) : Env × KS := declK d.params [] KS0
def rN (d : Def) : Int × (Int × Int) := needsK 2 d.needs (rP d).1 (stepTs d.body 0) (rP d).2.ft
def rB (d : Def) : Env × KS := blockK d.body (rP d).1 ⟨(rP d).2.dl, (rN d).2⟩
def rG (d : Def) : Int × (Int × Int) := needsK 1 d.give (rB d).1 (rN d).1 (rB d).2.ft
def rF (d : Def) : Int × Int := if 2048 < (rG d).1 then failF (rG d).2 11 0 else (rG d).2
def rMode (d : Def) : Int := if hasTs 2 5 d.body then (if !hasTs 2 2 d.body && (!hasTs 5 5 d.body && !(readsTs d.body || (cells d.needs || cells d.give))) then 2 else 3) else 1
def rcheck (d : Def) : Info × Int × Int :=
  if 8 < d.params.length then (Info0, 15, 0)
  else if (rF d).1 ≠ 0 then (Info0, (rF d).1, (rF d).2)
  else (⟨rMode d, (rG d).1, (rB d).2.dl.length, !hasTs 2 2 d.body && !readsTs d.body⟩, 0, 0)
theorem declK_dl : ∀ (l : List Bytes) (E : Env) (s : KS), (declK l E s).1.length = E.length + l.length ∧ (s.dl.length ≤ 16 → (declK l E s).2.dl.length ≤ 16) ∧ (l ≠ [] ∨ s.dl.length ≠ 0 → (declK l E s).2.dl.length ≠ 0)
  | [], E, s => ⟨by simp [declK], fun h => h, fun h => by rcases h with h | h; exact absurd rfl h; exact h⟩
  | p :: l, E, s => by
    have h1 := declK_dl l (E ++ [(p, 1)]) (s.declare p 0)
    rw [declK]
    refine ⟨by rw [h1.1]; simp; omega, fun h => h1.2.1 (declare_16 p 0 s h), fun _ => h1.2.2 (.inr fun h => declare_ne p 0 s (List.length_eq_zero_iff.1 h))⟩
theorem stmtK_len (x : Stmt) (env : Env) (st : KS) : (stmtK x env st).1.length ≤ env.length + 1 := by
  rw [stmtK_eq]; (repeat' split) <;> simp
theorem blockK_len : ∀ (l : List Stmt) (env : Env) (st : KS), (blockK l env st).1.length ≤ env.length + szt l
  | [], env, st => by simp [blockK]
  | s :: l, env, st => by
    have h1 := stmtK_len s env st
    have h2 := blockK_len l (stmtK s env st).1 (stmtK s env st).2
    have h3 := szT_eq s
    rw [blockK, szt]; omega
theorem enc_at {l : List Bytes} {k : Nat} (h : k < l.length) : ∃ p, l.drop k = p :: l.drop (k + 1) ∧ (l.map (IV.v <| .string ·)).drop k = ss p :: (l.drop (k + 1)).map (IV.v <| .string ·) :=
  ⟨_, List.drop_eq_getElem_cons h, by rw [← List.map_drop, List.drop_eq_getElem_cons h]; rfl⟩
set_option maxRecDepth 100000 in
set_option maxHeartbeats 4000000 in
theorem rcheck_sim (m : Mem) (d : Def) (hd : DefOK d) (ha : argTs d.body) : Sim 24 [.agg (encD d)] m (fun r m' => r = .tup [.agg (encI (rcheck d).1), ii (rcheck d).2.1, ii (rcheck d).2.2] ∧ m' = m) := by
  have hsize := hd.size
  have hpar := hd.params
  have hsn := szs_len d.needs
  have hsg := szs_len d.give
  refine Sim.ofS 165 [.cell 2 31, .tmp 3, .tmp 4] Try.func24 rfl rfl rfl (by simp) fun wr => ?_
  simp only [go_sem, Nat.reduceEqDiff, Nat.reduceBEq, Int.reduceToNat, Int.reduceLT, Int.reduceLE, Int.reduceEq, Nat.reduceLeDiff, Nat.reduceLT, Nat.reduceMul, Nat.reduceAdd, String.reduceEq]
  refine TS.seq (TS.of [1] fun Q hQ => ?_)
  simp only [go_sem, Nat.reduceEqDiff, Nat.reduceBEq, Int.reduceToNat, Int.reduceLT, Int.reduceLE, Int.reduceEq, Nat.reduceLeDiff, Nat.reduceLT, Nat.reduceMul, Nat.reduceAdd, String.reduceEq, encD]
  refine hQ .normal _ ?_; clear hQ Q
  refine TS.seq (TS.of [1] fun Q hQ => ?_)
  simp only [go_sem, Nat.reduceEqDiff, Nat.reduceBEq, Int.reduceToNat, Int.reduceLT, Int.reduceLE, Int.reduceEq, Nat.reduceLeDiff, Nat.reduceLT, Nat.reduceMul, Nat.reduceAdd, String.reduceEq]
  refine hQ .normal _ ?_; clear hQ Q
  by_cases h8 : 8 < d.params.length
  · have h8' : (8 : Int) < (d.params.length : Int) := by omega
    have hv : rcheck d = (Info0, 15, 0) := by unfold rcheck; rw [if_pos h8]
    rw [hv]
    refine TS.of [1] fun Q hQ => ?_
    simp only [go_sem, Nat.reduceEqDiff, Nat.reduceBEq, Int.reduceToNat, Int.reduceLT, Int.reduceLE, Int.reduceEq, Nat.reduceLeDiff, Nat.reduceLT, Nat.reduceMul, Nat.reduceAdd, String.reduceEq, encD, h8']
    refine hQ .ret _ ?_; clear hQ Q; refine post_ret _ _ (.tup [.agg (encI Info0), ii 15, ii 0]) ?_ ?_ (DropW.tail0 _ rfl) ⟨rfl, rfl⟩
    · simp only [go_sem, Nat.reduceEqDiff, Nat.reduceBEq, Int.reduceToNat, Int.reduceLT, Int.reduceLE, Int.reduceEq, Nat.reduceLeDiff, Nat.reduceLT, Nat.reduceMul, Nat.reduceAdd, String.reduceEq]
    · rfl
  have h8' : ¬ (8 : Int) < (d.params.length : Int) := by omega
  obtain ⟨B, hB⟩ : ∃ B, B = m.objs ++ [.cells (encI Info0)] := ⟨_, rfl⟩
  have hBl : B.length = m.objs.length + 1 := by rw [hB]; simp
  obtain ⟨b, hb⟩ : ∃ b, b = m.rows := ⟨_, rfl⟩
  refine TS.seq (TS.mono (Q := fun e s => e = .normal ∧ (s.t 1 = .ref (encD d) ∧ s.t 2 = .ptr m.objs.length 0 ∧ s.t 5 = .ptr B.length 0) ∧ s.m = ⟨FM B (slD b.length []) (0, 0) [], rowsK b 0 (X1 [] 0)⟩) ?_ ?_)
  · refine TS.of [1] fun Q hQ => ?_
    simp only [go_sem, Nat.reduceEqDiff, Nat.reduceBEq, Int.reduceToNat, Int.reduceLT, Int.reduceLE, Int.reduceEq, Nat.reduceLeDiff, Nat.reduceLT, Nat.reduceMul, Nat.reduceAdd, String.reduceEq, encD, h8']
    refine hQ .normal _ ?_
    refine ⟨rfl, ?_, ?_⟩
    · rw [hBl]; simp [upd_apply, argsT, encD]
    · rw [FM, hB, hb]; simp [rowsK, accK]
  rintro e s ⟨rfl, ⟨i1, i2, i5⟩, hm⟩
  refine TS.seq (TS.of [1] fun Q hQ => ?_)
  simp only [go_sem, Nat.reduceEqDiff, Nat.reduceBEq, Int.reduceToNat, Int.reduceLT, Int.reduceLE, Int.reduceEq, Nat.reduceLeDiff, Nat.reduceLT, Nat.reduceMul, Nat.reduceAdd, String.reduceEq]
  refine hQ .normal _ ?_; clear hQ Q
  have hdk := declK_dl d.params [] KS0
  obtain ⟨P, hPd⟩ : ∃ P, P = rP d := ⟨_, rfl⟩
  have hP : declK d.params [] KS0 = P := hPd.symm
  rw [hP] at hdk
  refine TS.seq (TS.mono (Q := fun e s => e = .normal ∧ (s.t 1 = .ref (encD d) ∧ s.t 2 = .ptr m.objs.length 0 ∧ s.t 5 = .ptr B.length 0 ∧ s.t 6 = slW (b.length + 1 + 0) P.1) ∧ s.m = ⟨FM B (slD b.length P.2.dl) P.2.ft [], rowsK b P.2.dl.length (X1 [] P.1.length)⟩) ?_ ?_)
  · refine TS.seq (TS.of [1] fun Q hQ => ?_)
    simp only [go_sem, Nat.reduceEqDiff, Nat.reduceBEq, Int.reduceToNat, Int.reduceLT, Int.reduceLE, Int.reduceEq, Nat.reduceLeDiff, Nat.reduceLT, Nat.reduceMul, Nat.reduceAdd, String.reduceEq]
    refine hQ .normal _ ?_; clear hQ Q
    refine TS.block (TS.loop (α := Nat × Env × KS) (fun x => [(1, .ref (encD d)), (2, .ptr m.objs.length 0), (5, .ptr B.length 0), (6, slW (b.length + 1 + 0) x.2.1), (7, ii x.1)]) (fun x => ⟨FM B (slD b.length x.2.2.dl) x.2.2.ft [], rowsK b x.2.2.dl.length (X1 [] x.2.1.length)⟩) (fun x => x.1 ≤ d.params.length ∧ declK (d.params.drop x.1) x.2.1 x.2.2 = P ∧ x.2.2.dl.length ≤ 16 ∧ (x.2.1.length ≠ 0 → x.2.2.dl.length ≠ 0) ∧ x.2.1.length = x.1) (fun x => d.params.length - x.1) (0, [], KS0) (by simp) ⟨by simp [Has, upd_apply, i1, i2, i5, accK, encV], hm, ⟨Nat.zero_le _, hP, by simp, by simp, rfl⟩⟩ ?_)
    rintro ⟨k, E, S⟩ st hH hm2 ⟨hk, hrest, hS16, hEne, hEk⟩
    dsimp only at hH hm2 hk hrest hS16 hEne hEk
    simp only [Has, List.mem_cons, List.not_mem_nil, or_false, forall_eq_or_imp, forall_eq] at hH; obtain ⟨j1, j2, j5, j6, j7⟩ := hH
    by_cases hlt : k < d.params.length
    · obtain ⟨p, hp, hat⟩ := enc_at hlt
      have hl1 : k < (d.params.map (IV.v <| .string ·)).length := by rw [List.length_map]; exact hlt
      have hw := wrap_succ hlt (by omega)
      rw [hp, declK] at hrest
      have hX1 : S.dl.length = 0 → X1 [] E.length = [] := fun h => by
        have : E.length = 0 := Decidable.byContradiction fun h2 => hEne h2 h
        rw [this]; rfl
      have hde := (rdeclare_sim p 0 S (by omega)).mem B [] b (X1 [] E.length) hX1
      have hdne := declare_ne p 0 S
      have hdl := declare_len p 0 S
      have hd16 := declare_16 p 0 S hS16
      generalize KS.declare p 0 S = S2 at hde hrest hdne hdl hd16
      have hS2 : S2.dl.length ≠ 0 := fun h => hdne (List.length_eq_zero_iff.1 h)
      have hgr := app_grow (b := b) (X := []) (n := S2.dl.length) (k := E.length) hS2
      rw [List.length_nil] at hgr
      have hEl2 : (encV E).length = E.length * 2 := encV_len E
      have hEb : (E.length + 1) * 24 ≤ 140737488355328 := by omega
      refine TS.of [1] fun Q hQ => ?_
      simp only [go_sem, Nat.reduceEqDiff, Nat.reduceBEq, Int.reduceToNat, Int.reduceLT, Int.reduceLE, Int.reduceEq, Nat.reduceLeDiff, Nat.reduceLT, Nat.reduceMul, Nat.reduceAdd, String.reduceEq, j1, j2, j5, j6, j7, hm2, encD, hlt, hat, hl1]
      refine cal_eq hde ?_
      simp only [go_sem, Nat.reduceEqDiff, Nat.reduceBEq, Int.reduceToNat, Int.reduceLT, Int.reduceLE, Int.reduceEq, Nat.reduceLeDiff, Nat.reduceLT, Nat.reduceMul, Nat.reduceAdd, String.reduceEq, j1, j2, j5, j6, j7, encD, hlt, hat, hl1, hgr, hEl2, hEb, hw]
      refine hQ .normal _ ?_; clear hQ Q
      have hE1 : (E ++ [(p, 1)]).length = E.length + 1 := by simp
      have hw2 : slW (b.length + 1 + 0) (E ++ [(p, 1)]) = .sl (accK (b.length + 1 + 0) 95 (E.length + 1)) (E.length + 1) (encV E ++ [ss p, ii 1]) := by simp [slW, encV_app, encV]
      have h := DropW.fk0 B (slD b.length S.dl) (slD b.length S2.dl) S.ft S2.ft [] _ _ (rowsK b S2.dl.length (X1 [] (E.length + 1))) (rows_le (b := b) (X := []) (k := E.length) (k' := E.length + 1) hdl.1 (Nat.le_succ _) hX1 (fun _ => hS2)) (by simp) (fun no => slD_np no)
      refine ⟨_, _, (k + 1, E ++ [(p, 1)], S2), by dsimp only; rw [hE1]; exact h, ?_, ⟨hlt, hrest, hd16, fun _ => hS2, by dsimp only; rw [hE1, hEk]⟩, by dsimp only; omega⟩
      dsimp only
      rw [hw2]
      have hacc : (accK (b.length + 1 + 0) 95 (E.length + 1)).np (rowsK b S2.dl.length (X1 [] (E.length + 1))).length = true := by
        unfold accK; rw [if_neg (by omega), rowsK_len hS2]; unfold X1; rw [if_neg (by omega)]; simp [SK.np]
      have hnl : ∀ no nr, npL no nr (encV E ++ [ss p, ii 1]) = true := fun no nr => npL_app (npV _ _ _) rfl
      simp only [List.mem_cons, List.not_mem_nil, or_false, forall_eq_or_imp, forall_eq, IV.np, hacc, hnl]
      simp [upd_apply, j1, j2, j5, np_sh, npS, npEs, npTs, npL, IV.np, encD] <;> omega
    · refine TS.of [1] fun Q hQ => ?_
      simp only [go_sem, Nat.reduceEqDiff, Nat.reduceBEq, Int.reduceToNat, Int.reduceLT, Int.reduceLE, Int.reduceEq, Nat.reduceLeDiff, Nat.reduceLT, Nat.reduceMul, Nat.reduceAdd, String.reduceEq, j1, j2, j5, j6, j7, hm2, encD, hlt]
      refine hQ (.exit 0) _ ?_; clear hQ Q
      rw [List.drop_eq_nil_of_le (by omega), declK] at hrest
      subst hrest
      exact ⟨rfl, by simp [upd_apply, j1, j2, j5, j6], rfl⟩
  clear i1 i2 i5 hm s
  rintro e s ⟨rfl, ⟨i1, i2, i5, i6⟩, hm⟩
  have hPl : P.1.length = d.params.length := by rw [hdk.1]; simp
  have hP16 : P.2.dl.length ≤ 16 := hdk.2.1 (by simp)
  have hPne : P.1.length ≠ 0 → P.2.dl.length ≠ 0 := fun h => hdk.2.2 (.inl fun e => h (by rw [hPl, e]; rfl))
  have hPX : P.2.dl.length = 0 → X1 [] P.1.length = [] := fun h => by
    have : P.1.length = 0 := Decidable.byContradiction fun h2 => hPne h2 h
    rw [this]; rfl
  have hPacc : (accK (b.length + 1 + 0) 95 P.1.length).np (rowsK b P.2.dl.length (X1 [] P.1.length)).length = true := by
    unfold accK
    by_cases h : P.1.length = 0
    · rw [if_pos h]; rfl
    · rw [if_neg h, rowsK_len (hPne h)]; unfold X1; rw [if_neg h]; simp [SK.np]
  generalize X1 [] P.1.length = X2 at hm hPX hPacc
  have hst := fun m : Mem => steps_sim m (szt d.body) (by omega) d.body (Nat.le_refl _) m
  refine TS.seq (TS.of [1] fun Q hQ => ?_)
  simp only [go_sem, Nat.reduceEqDiff, Nat.reduceBEq, Int.reduceToNat, Int.reduceLT, Int.reduceLE, Int.reduceEq, Nat.reduceLeDiff, Nat.reduceLT, Nat.reduceMul, Nat.reduceAdd, String.reduceEq, i1, encD]
  refine cal_eq (hst _) ?_
  simp only [go_sem, Nat.reduceEqDiff, Nat.reduceBEq, Int.reduceToNat, Int.reduceLT, Int.reduceLE, Int.reduceEq, Nat.reduceLeDiff, Nat.reduceLT, Nat.reduceMul, Nat.reduceAdd, String.reduceEq]
  refine hQ .normal _ ?_; clear hQ Q
  obtain ⟨N, hNd⟩ : ∃ N, N = rN d := ⟨_, rfl⟩
  have hN : needsK 2 d.needs P.1 (stepTs d.body 0) P.2.ft = N := by rw [hNd, rN, hPd]
  refine TS.seq (TS.seq (TS.of [1] fun Q hQ => ?_))
  simp only [go_sem, Nat.reduceEqDiff, Nat.reduceBEq, Int.reduceToNat, Int.reduceLT, Int.reduceLE, Int.reduceEq, Nat.reduceLeDiff, Nat.reduceLT, Nat.reduceMul, Nat.reduceAdd, String.reduceEq]
  refine hQ .normal _ ?_; clear hQ Q
  refine TS.block (TS.loop (α := Nat × Int × (Int × Int)) (fun x => [(1, .ref (encD d)), (2, .ptr m.objs.length 0), (5, .ptr B.length 0), (6, slW (b.length + 1 + 0) P.1), (8, ii x.2.1), (9, ii x.1)]) (fun x => ⟨FM B (slD b.length P.2.dl) x.2.2 [], rowsK b P.2.dl.length X2⟩) (fun x => x.1 ≤ d.needs.length ∧ needsK 2 (d.needs.drop x.1) P.1 x.2.1 x.2.2 = N) (fun x => d.needs.length - x.1) (0, stepTs d.body 0, P.2.ft) (by simp) ⟨by simp [Has, upd_apply, i1, i2, i5, i6], hm, ⟨Nat.zero_le _, hN⟩⟩ ?_)
  rintro ⟨k, n, ft⟩ st hH hm2 ⟨hk, hrest⟩
  dsimp only at hH hm2 hk hrest
  simp only [Has, List.mem_cons, List.not_mem_nil, or_false, forall_eq_or_imp, forall_eq] at hH; obtain ⟨j1, j2, j5, j6, j8, jk⟩ := hH
  by_cases hlt : k < d.needs.length
  · obtain ⟨x, hx⟩ : ∃ x, d.needs[k]? = some x := ⟨_, List.getElem?_eq_getElem hlt⟩
    have hdr : d.needs.drop k = x :: d.needs.drop (k + 1) := by rw [List.drop_eq_getElem_cons hlt]; congr 1; exact Option.some.inj ((List.getElem?_eq_getElem hlt).symm.trans hx)
    have hat := encEs_at hx
    have hlt5 : k * 5 < (encEs d.needs).length := by rw [encEs_length]; omega
    have hw := wrap_succ hlt (by omega)
    have hszx := szE_at hx
    rw [hdr, needsK] at hrest
    have hs := fun no => slD_np (b := b) (X := X2) (dl := P.2.dl) no
    have hn := (need_sim x 2 P.1 ft (by omega) (by omega)).mem B [] (rowsK b P.2.dl.length X2) (slD b.length P.2.dl) hs
    have hsz := fun m => size_sim m (szE x) (by omega) x (Nat.le_refl _)
    rw [encE_eq] at hn hsz
    generalize needE x 2 P.1 ft = ft' at hn hrest
    refine TS.of [1] fun Q hQ => ?_
    simp only [go_sem, Nat.reduceEqDiff, Nat.reduceBEq, Int.reduceToNat, Int.reduceLT, Int.reduceLE, Int.reduceEq, Nat.reduceLeDiff, Nat.reduceLT, Nat.reduceMul, Nat.reduceAdd, String.reduceEq, j1, j2, j5, j6, j8, jk, hm2, encD, hlt, hat, hlt5]
    refine cal_eq hn ?_
    simp only [go_sem, Nat.reduceEqDiff, Nat.reduceBEq, Int.reduceToNat, Int.reduceLT, Int.reduceLE, Int.reduceEq, Nat.reduceLeDiff, Nat.reduceLT, Nat.reduceMul, Nat.reduceAdd, String.reduceEq, j1, j2, j5, j6, j8, jk, encD, hlt, hat, hlt5]
    refine cal_eq (hsz _) ?_
    simp only [go_sem, Nat.reduceEqDiff, Nat.reduceBEq, Int.reduceToNat, Int.reduceLT, Int.reduceLE, Int.reduceEq, Nat.reduceLeDiff, Nat.reduceLT, Nat.reduceMul, Nat.reduceAdd, String.reduceEq, j1, j2, j5, j6, j8, jk, hw]
    refine hQ .normal _ ?_; clear hQ Q
    refine ⟨_, _, (k + 1, IntKind.i64.wrap (n + sizeE x), ft'), DropW.fm0 B _ ft ft' [] _ hs, ?_, ⟨hlt, hrest⟩, by dsimp only; omega⟩
    dsimp only
    simp only [List.mem_cons, List.not_mem_nil, or_false, forall_eq_or_imp, forall_eq, IV.np, hPacc, npV]
    simp [upd_apply, j1, j2, j5, j6, np_sh, npS, npEs, npTs, npL, IV.np, encD] <;> omega
  refine TS.of [1] fun Q hQ => ?_
  simp only [go_sem, Nat.reduceEqDiff, Nat.reduceBEq, Int.reduceToNat, Int.reduceLT, Int.reduceLE, Int.reduceEq, Nat.reduceLeDiff, Nat.reduceLT, Nat.reduceMul, Nat.reduceAdd, String.reduceEq, j1, j2, j5, j6, j8, jk, hm2, encD, hlt]
  refine hQ (.exit 2) _ ?_; clear hQ Q
  rw [List.drop_eq_nil_of_le (by omega), needsK] at hrest
  clear i1 i2 i5 i6 hm s
  have hrest' : (n, ft) = N := hrest
  have hn1 : n = N.1 := by rw [← hrest']
  have hf1 : ft = N.2 := by rw [← hrest']
  subst hn1 hf1
  have hkg : KG d.body P.1 ⟨P.2.dl, N.2⟩ := ⟨ha, by rw [hPl]; omega, hP16, hPne⟩
  have hblk := (kblock_sim hkg).mem B [] b X2 hPX
  have hbd := blockK_dl d.body P.1 ⟨P.2.dl, N.2⟩
  obtain ⟨BB, hBBd⟩ : ∃ BB, BB = rB d := ⟨_, rfl⟩
  have hBB : blockK d.body P.1 ⟨P.2.dl, N.2⟩ = BB := by rw [hBBd, rB, hPd, hNd]
  rw [hBB] at hblk hbd
  refine TS.seq (TS.of [1] fun Q hQ => ?_)
  simp only [go_sem, Nat.reduceEqDiff, Nat.reduceBEq, Int.reduceToNat, Int.reduceLT, Int.reduceLE, Int.reduceEq, Nat.reduceLeDiff, Nat.reduceLT, Nat.reduceMul, Nat.reduceAdd, String.reduceEq, j1, j2, j5, j6, j8, encD]
  refine cal_eq hblk ?_
  simp only [go_sem, Nat.reduceEqDiff, Nat.reduceBEq, Int.reduceToNat, Int.reduceLT, Int.reduceLE, Int.reduceEq, Nat.reduceLeDiff, Nat.reduceLT, Nat.reduceMul, Nat.reduceAdd, String.reduceEq]
  refine hQ .normal _ ?_; clear hQ Q
  obtain ⟨G, hGd⟩ : ∃ G, G = rG d := ⟨_, rfl⟩
  have hG : needsK 1 d.give BB.1 N.1 BB.2.ft = G := by rw [hGd, rG, hBBd, hNd]
  have hBX : BB.2.dl.length = 0 → X2 = [] := fun h => hPX (Nat.le_zero.1 (h ▸ hbd.1))
  have hBBl : BB.1.length < 900000 := by have := blockK_len d.body P.1 ⟨P.2.dl, N.2⟩; rw [hBB, hPl] at this; omega
  clear hm2 hrest hk hlt
  refine TS.seq (TS.seq (TS.of [1] fun Q hQ => ?_))
  simp only [go_sem, Nat.reduceEqDiff, Nat.reduceBEq, Int.reduceToNat, Int.reduceLT, Int.reduceLE, Int.reduceEq, Nat.reduceLeDiff, Nat.reduceLT, Nat.reduceMul, Nat.reduceAdd, String.reduceEq]
  refine hQ .normal _ ?_; clear hQ Q
  refine TS.block (TS.loop (α := Nat × Int × (Int × Int)) (fun x => [(1, .ref (encD d)), (2, .ptr m.objs.length 0), (5, .ptr B.length 0), (6, slV BB.1), (8, ii x.2.1), (10, ii x.1)]) (fun x => ⟨FM B (slD b.length BB.2.dl) x.2.2 [], rowsK b BB.2.dl.length X2⟩) (fun x => x.1 ≤ d.give.length ∧ needsK 1 (d.give.drop x.1) BB.1 x.2.1 x.2.2 = G) (fun x => d.give.length - x.1) (0, N.1, BB.2.ft) (by simp) ⟨by simp [Has, upd_apply, j1, j2, j5, j8], rfl, ⟨Nat.zero_le _, hG⟩⟩ ?_)
  clear jk j1 j2 j5 j6 j8 st
  rintro ⟨k, n, ft⟩ st hH hm2 ⟨hk, hrest⟩
  dsimp only at hH hm2 hk hrest
  simp only [Has, List.mem_cons, List.not_mem_nil, or_false, forall_eq_or_imp, forall_eq] at hH; obtain ⟨j1, j2, j5, j6, j8, jk⟩ := hH
  by_cases hlt : k < d.give.length
  · obtain ⟨x, hx⟩ : ∃ x, d.give[k]? = some x := ⟨_, List.getElem?_eq_getElem hlt⟩
    have hdr : d.give.drop k = x :: d.give.drop (k + 1) := by rw [List.drop_eq_getElem_cons hlt]; congr 1; exact Option.some.inj ((List.getElem?_eq_getElem hlt).symm.trans hx)
    have hat := encEs_at hx
    have hlt5 : k * 5 < (encEs d.give).length := by rw [encEs_length]; omega
    have hw := wrap_succ hlt (by omega)
    have hszx := szE_at hx
    rw [hdr, needsK] at hrest
    have hs := fun no => slD_np (b := b) (X := X2) (dl := BB.2.dl) no
    have hn := (need_sim x 1 BB.1 ft (by omega) (by omega)).mem B [] (rowsK b BB.2.dl.length X2) (slD b.length BB.2.dl) hs
    have hsz := fun m => size_sim m (szE x) (by omega) x (Nat.le_refl _)
    rw [encE_eq] at hn hsz
    generalize needE x 1 BB.1 ft = ft' at hn hrest
    refine TS.of [1] fun Q hQ => ?_
    simp only [go_sem, Nat.reduceEqDiff, Nat.reduceBEq, Int.reduceToNat, Int.reduceLT, Int.reduceLE, Int.reduceEq, Nat.reduceLeDiff, Nat.reduceLT, Nat.reduceMul, Nat.reduceAdd, String.reduceEq, j1, j2, j5, j6, j8, jk, hm2, encD, hlt, hat, hlt5]
    refine cal_eq hn ?_
    simp only [go_sem, Nat.reduceEqDiff, Nat.reduceBEq, Int.reduceToNat, Int.reduceLT, Int.reduceLE, Int.reduceEq, Nat.reduceLeDiff, Nat.reduceLT, Nat.reduceMul, Nat.reduceAdd, String.reduceEq, j1, j2, j5, j6, j8, jk, encD, hlt, hat, hlt5]
    refine cal_eq (hsz _) ?_
    simp only [go_sem, Nat.reduceEqDiff, Nat.reduceBEq, Int.reduceToNat, Int.reduceLT, Int.reduceLE, Int.reduceEq, Nat.reduceLeDiff, Nat.reduceLT, Nat.reduceMul, Nat.reduceAdd, String.reduceEq, j1, j2, j5, j6, j8, jk, hw]
    refine hQ .normal _ ?_; clear hQ Q
    refine ⟨_, _, (k + 1, IntKind.i64.wrap (n + sizeE x), ft'), DropW.fm0 B _ ft ft' [] _ hs, ?_, ⟨hlt, hrest⟩, by dsimp only; omega⟩
    dsimp only
    simp only [List.mem_cons, List.not_mem_nil, or_false, forall_eq_or_imp, forall_eq, IV.np, np_sh, npV]
    simp [upd_apply, j1, j2, j5, j6, np_sh, npS, npEs, npTs, npL, IV.np, encD] <;> omega
  refine TS.of [1] fun Q hQ => ?_
  simp only [go_sem, Nat.reduceEqDiff, Nat.reduceBEq, Int.reduceToNat, Int.reduceLT, Int.reduceLE, Int.reduceEq, Nat.reduceLeDiff, Nat.reduceLT, Nat.reduceMul, Nat.reduceAdd, String.reduceEq, j1, j2, j5, j6, j8, jk, hm2, encD, hlt]
  refine hQ (.exit 4) _ ?_; clear hQ Q
  rw [List.drop_eq_nil_of_le (by omega), needsK] at hrest
  have hrest2 : (n, ft) = G := hrest
  have hn2 : n = G.1 := by rw [← hrest2]
  have hf2 : ft = G.2 := by rw [← hrest2]
  subst hn2 hf2
  obtain ⟨rs, hrs⟩ : ∃ rs, rowsK b BB.2.dl.length X2 = m.rows ++ rs := by
    rw [hb]; unfold rowsK; split
    · exact ⟨[], by simp⟩
    · exact ⟨_, rfl⟩
  have hrF : rF d = if 2048 < G.1 then failF G.2 11 0 else G.2 := by rw [rF, ← hGd]
  have hs := fun no => slD_np (b := b) (X := X2) (dl := BB.2.dl) no
  refine TS.seq (TS.mono (Q := fun e s => e = .normal ∧ (s.t 1 = .ref (encD d) ∧ s.t 2 = .ptr m.objs.length 0 ∧ s.t 5 = .ptr B.length 0 ∧ s.t 8 = ii G.1) ∧ s.m = ⟨FM B (slD b.length BB.2.dl) (rF d) [], rowsK b BB.2.dl.length X2⟩) ?_ ?_)
  · by_cases hbig : 2048 < G.1
    · rw [if_pos hbig] at hrF
      refine TS.of [1] fun Q hQ => ?_
      simp only [go_sem, Nat.reduceEqDiff, Nat.reduceBEq, Int.reduceToNat, Int.reduceLT, Int.reduceLE, Int.reduceEq, Nat.reduceLeDiff, Nat.reduceLT, Nat.reduceMul, Nat.reduceAdd, String.reduceEq, j1, j2, j5, j8, hm2, hbig]
      refine cal_eq ((rfail_sim G.2 11 0).mem B [] _ _ hs) ?_
      simp only [go_sem, Nat.reduceEqDiff, Nat.reduceBEq, Int.reduceToNat, Int.reduceLT, Int.reduceLE, Int.reduceEq, Nat.reduceLeDiff, Nat.reduceLT, Nat.reduceMul, Nat.reduceAdd, String.reduceEq]
      refine hQ .normal _ ?_; clear hQ Q
      exact ⟨rfl, by simp [upd_apply, j1, j2, j5, j8], by rw [hrF]⟩
    · rw [if_neg hbig] at hrF
      refine TS.of [1] fun Q hQ => ?_
      simp only [go_sem, Nat.reduceEqDiff, Nat.reduceBEq, Int.reduceToNat, Int.reduceLT, Int.reduceLE, Int.reduceEq, Nat.reduceLeDiff, Nat.reduceLT, Nat.reduceMul, Nat.reduceAdd, String.reduceEq, j1, j2, j5, j8, hm2, hbig]
      refine hQ .normal _ ?_; clear hQ Q
      exact ⟨rfl, by simp [upd_apply, j1, j2, j5, j8], by rw [hrF]⟩
  clear j1 j2 j5 j6 j8 jk hm2 hrF hrest hrest2 hk hlt
  rintro e s ⟨rfl, ⟨i1, i2, i5, i8⟩, hm⟩
  obtain ⟨dl, hdl⟩ : ∃ dl, dl = BB.2.dl := ⟨_, rfl⟩
  obtain ⟨F, hF⟩ : ∃ F, F = rF d := ⟨_, rfl⟩
  have hFM : FM B (slD b.length dl) F [] = m.objs ++ [.cells (encI Info0), .cells (cellsF (slD b.length dl) F)] := by simp [FM, hB]
  rw [hrs, ← hdl, ← hF, hFM] at hm
  rw [hBl] at i5
  have hne : ¬ (m.objs.length + 1 = m.objs.length) := by omega
  by_cases hf0 : F.1 = 0
  · have hv : rcheck d = (⟨rMode d, G.1, dl.length, !hasTs 2 2 d.body && !readsTs d.body⟩, 0, 0) := by
      rw [rcheck, if_neg h8, if_neg (by rw [← hF]; simpa using hf0), ← hGd, ← hBBd, hdl]
    rw [hv, rMode]
    have c22 := fun m => hasS_sim 2 2 (szt d.body) (by omega) d.body (Nat.le_refl _) m
    have c25 := fun m => hasS_sim 2 5 (szt d.body) (by omega) d.body (Nat.le_refl _) m
    have c55 := fun m => hasS_sim 5 5 (szt d.body) (by omega) d.body (Nat.le_refl _) m
    have crd := fun m => reads_sim (szt d.body) (by omega) d.body (Nat.le_refl _) m
    have ccn := fun m => cells_sim m (szs d.needs) (by omega) d.needs (Nat.le_refl _)
    have ccg := fun m => cells_sim m (szs d.give) (by omega) d.give (Nat.le_refl _)
    generalize hasTs 2 2 d.body = b22 at c22 ⊢
    generalize hasTs 2 5 d.body = b25 at c25 ⊢
    generalize hasTs 5 5 d.body = b55 at c55 ⊢
    generalize readsTs d.body = rd at crd ⊢
    generalize cells d.needs = cn at ccn ⊢
    generalize cells d.give = cg at ccg ⊢
    refine TS.seq (TS.of [1] fun Q hQ => ?_)
    simp only [go_sem, Nat.reduceEqDiff, Nat.reduceBEq, Int.reduceToNat, Int.reduceLT, Int.reduceLE, Int.reduceEq, Nat.reduceLeDiff, Nat.reduceLT, Nat.reduceMul, Nat.reduceAdd, String.reduceEq, i1, i2, i5, i8, hm, hf0]
    refine hQ .normal _ ?_; clear hQ Q
    refine TS.seq (TS.mono (Q := fun e s => e = .normal ∧ (s.t 1 = .ref (encD d) ∧ s.t 2 = .ptr m.objs.length 0 ∧ s.t 11 = .ptr (m.objs.length + 2) 0) ∧ s.m = ⟨m.objs ++ [.cells (encI Info0), .cells (cellsF (slD b.length dl) F), .cells (encI ⟨1, G.1, dl.length, !b22 && !rd⟩)], m.rows ++ rs⟩) ?_ ?_)
    · have hne2 : ¬ (m.objs.length = m.objs.length + 1) := by omega
      cases b22 with
      | true =>
        refine TS.of [1] fun Q hQ => ?_
        simp only [go_sem, Nat.reduceEqDiff, Nat.reduceBEq, Int.reduceToNat, Int.reduceLT, Int.reduceLE, Int.reduceEq, Nat.reduceLeDiff, Nat.reduceLT, Nat.reduceMul, Nat.reduceAdd, String.reduceEq, i1, i2, i5, i8, hm]
        refine drn_of ⟨[122, 127], [119], [m.objs.length + 1]⟩ [0, 0, 2, 6, 14, 30, 0, 64, 192, 448, 960, 1984, 4032, 8128, 16320, 32704, 65535, 0, 262143] (by kernel_rfl) ?_
        simp only [go_sem, Nat.reduceEqDiff, Nat.reduceBEq, Int.reduceToNat, Int.reduceLT, Int.reduceLE, Int.reduceEq, Nat.reduceLeDiff, Nat.reduceLT, Nat.reduceMul, Nat.reduceAdd, String.reduceEq, i1, i2, i5, i8, encD]
        refine cald_eqS c22 ?_
        simp only [go_sem, Nat.reduceEqDiff, Nat.reduceBEq, Int.reduceToNat, Int.reduceLT, Int.reduceLE, Int.reduceEq, Nat.reduceLeDiff, Nat.reduceLT, Nat.reduceMul, Nat.reduceAdd, String.reduceEq, i1, i2, i5, i8, encD]
        refine ⟨hne2, ?_⟩
        refine hQ .normal _ ?_; clear hQ Q
        exact ⟨rfl, by simp [upd_apply, i1, i2], rfl⟩
      | false =>
        refine TS.of [1] fun Q hQ => ?_
        simp only [go_sem, Nat.reduceEqDiff, Nat.reduceBEq, Int.reduceToNat, Int.reduceLT, Int.reduceLE, Int.reduceEq, Nat.reduceLeDiff, Nat.reduceLT, Nat.reduceMul, Nat.reduceAdd, String.reduceEq, i1, i2, i5, i8, hm]
        refine drn_of ⟨[122, 127], [119], [m.objs.length + 1]⟩ [0, 0, 2, 6, 14, 30, 0, 64, 192, 448, 960, 1984, 4032, 8128, 16320, 32704, 65535, 0, 262143] (by kernel_rfl) ?_
        simp only [go_sem, Nat.reduceEqDiff, Nat.reduceBEq, Int.reduceToNat, Int.reduceLT, Int.reduceLE, Int.reduceEq, Nat.reduceLeDiff, Nat.reduceLT, Nat.reduceMul, Nat.reduceAdd, String.reduceEq, i1, i2, i5, i8, encD]
        refine cald_eqS c22 ?_
        simp only [go_sem, Nat.reduceEqDiff, Nat.reduceBEq, Int.reduceToNat, Int.reduceLT, Int.reduceLE, Int.reduceEq, Nat.reduceLeDiff, Nat.reduceLT, Nat.reduceMul, Nat.reduceAdd, String.reduceEq, i1, i2, i5, i8, encD]
        refine cald_eqS crd ?_
        simp only [go_sem, Nat.reduceEqDiff, Nat.reduceBEq, Int.reduceToNat, Int.reduceLT, Int.reduceLE, Int.reduceEq, Nat.reduceLeDiff, Nat.reduceLT, Nat.reduceMul, Nat.reduceAdd, String.reduceEq, i1, i2, i5, i8, encD]
        refine ⟨hne2, ?_⟩
        refine hQ .normal _ ?_; clear hQ Q
        exact ⟨rfl, by simp [upd_apply, i1, i2], by cases rd <;> rfl⟩
    clear i1 i2 i5 i8 hm
    rintro e s ⟨rfl, ⟨i1, i2, i11⟩, hm⟩
    refine TS.seq (TS.mono (Q := fun e s => e = .normal ∧ (s.t 1 = .ref (encD d) ∧ s.t 2 = .ptr m.objs.length 0 ∧ s.t 11 = .ptr (m.objs.length + 2) 0 ∧ s.t 12 = bb (rd || (cn || cg))) ∧ s.m = ⟨m.objs ++ [.cells (encI Info0), .cells (cellsF (slD b.length dl) F), .cells (encI ⟨1, G.1, dl.length, !b22 && !rd⟩)], m.rows ++ rs⟩) ?_ ?_)
    · cases rd with
      | true =>
        refine TS.of [1] fun Q hQ => ?_
        simp only [go_sem, Nat.reduceEqDiff, Nat.reduceBEq, Int.reduceToNat, Int.reduceLT, Int.reduceLE, Int.reduceEq, Nat.reduceLeDiff, Nat.reduceLT, Nat.reduceMul, Nat.reduceAdd, String.reduceEq, i1, hm, encD]
        refine cal_eq (crd _) ?_
        simp only [go_sem, Nat.reduceEqDiff, Nat.reduceBEq, Int.reduceToNat, Int.reduceLT, Int.reduceLE, Int.reduceEq, Nat.reduceLeDiff, Nat.reduceLT, Nat.reduceMul, Nat.reduceAdd, String.reduceEq, i1, encD]
        refine hQ .normal _ ?_; clear hQ Q
        exact ⟨rfl, by simp [upd_apply, i1, i2, i11], by first | rfl | exact hm | (cases b22 <;> rfl)⟩
      | false =>
        cases cn with
        | true =>
          refine TS.of [1] fun Q hQ => ?_
          simp only [go_sem, Nat.reduceEqDiff, Nat.reduceBEq, Int.reduceToNat, Int.reduceLT, Int.reduceLE, Int.reduceEq, Nat.reduceLeDiff, Nat.reduceLT, Nat.reduceMul, Nat.reduceAdd, String.reduceEq, i1, hm, encD]
          refine cal_eq (crd _) ?_
          simp only [go_sem, Nat.reduceEqDiff, Nat.reduceBEq, Int.reduceToNat, Int.reduceLT, Int.reduceLE, Int.reduceEq, Nat.reduceLeDiff, Nat.reduceLT, Nat.reduceMul, Nat.reduceAdd, String.reduceEq, i1, encD]
          refine cal_eq (ccn _) ?_
          simp only [go_sem, Nat.reduceEqDiff, Nat.reduceBEq, Int.reduceToNat, Int.reduceLT, Int.reduceLE, Int.reduceEq, Nat.reduceLeDiff, Nat.reduceLT, Nat.reduceMul, Nat.reduceAdd, String.reduceEq, i1, encD]
          refine hQ .normal _ ?_; clear hQ Q
          exact ⟨rfl, by simp [upd_apply, i1, i2, i11], by first | rfl | exact hm | (cases b22 <;> rfl)⟩
        | false =>
          refine TS.of [1] fun Q hQ => ?_
          simp only [go_sem, Nat.reduceEqDiff, Nat.reduceBEq, Int.reduceToNat, Int.reduceLT, Int.reduceLE, Int.reduceEq, Nat.reduceLeDiff, Nat.reduceLT, Nat.reduceMul, Nat.reduceAdd, String.reduceEq, i1, hm, encD]
          refine cal_eq (crd _) ?_
          simp only [go_sem, Nat.reduceEqDiff, Nat.reduceBEq, Int.reduceToNat, Int.reduceLT, Int.reduceLE, Int.reduceEq, Nat.reduceLeDiff, Nat.reduceLT, Nat.reduceMul, Nat.reduceAdd, String.reduceEq, i1, encD]
          refine cal_eq (ccn _) ?_
          simp only [go_sem, Nat.reduceEqDiff, Nat.reduceBEq, Int.reduceToNat, Int.reduceLT, Int.reduceLE, Int.reduceEq, Nat.reduceLeDiff, Nat.reduceLT, Nat.reduceMul, Nat.reduceAdd, String.reduceEq, i1, encD]
          refine cal_eq (ccg _) ?_
          simp only [go_sem, Nat.reduceEqDiff, Nat.reduceBEq, Int.reduceToNat, Int.reduceLT, Int.reduceLE, Int.reduceEq, Nat.reduceLeDiff, Nat.reduceLT, Nat.reduceMul, Nat.reduceAdd, String.reduceEq, i1, encD]
          refine hQ .normal _ ?_; clear hQ Q
          exact ⟨rfl, by simp [upd_apply, i1, i2, i11], by first | rfl | exact hm | (cases b22 <;> rfl)⟩
    clear i1 i2 i11 hm
    rintro e s ⟨rfl, ⟨i1, i2, i11, i12⟩, hm⟩
    generalize hro : (rd || (cn || cg)) = ro at i12 ⊢
    generalize (!b22 && !rd) = tn at hm ⊢
    refine TS.seq (TS.mono (Q := fun e s => e = .normal ∧ (s.t 2 = .ptr m.objs.length 0 ∧ s.t 11 = .ptr (m.objs.length + 2) 0) ∧ s.m = ⟨m.objs ++ [.cells (encI Info0), .cells (cellsF (slD b.length dl) F), .cells (encI ⟨if b25 then (if !b22 && (!b55 && !ro) then 2 else 3) else 1, G.1, dl.length, tn⟩)], m.rows ++ rs⟩) ?_ ?_)
    · cases b25 with
      | false =>
        refine TS.of [1] fun Q hQ => ?_
        simp only [go_sem, Nat.reduceEqDiff, Nat.reduceBEq, Int.reduceToNat, Int.reduceLT, Int.reduceLE, Int.reduceEq, Nat.reduceLeDiff, Nat.reduceLT, Nat.reduceMul, Nat.reduceAdd, String.reduceEq, i1, hm, encD]
        refine cal_eq (c25 _) ?_
        simp only [go_sem, Nat.reduceEqDiff, Nat.reduceBEq, Int.reduceToNat, Int.reduceLT, Int.reduceLE, Int.reduceEq, Nat.reduceLeDiff, Nat.reduceLT, Nat.reduceMul, Nat.reduceAdd, String.reduceEq, i1, encD]
        refine hQ .normal _ ?_; clear hQ Q
        exact ⟨rfl, by simp [upd_apply, i2, i11], by first | rfl | exact hm | (cases b22 <;> rfl)⟩
      | true =>
        cases b22 with
        | true =>
          refine TS.of [1] fun Q hQ => ?_
          simp only [go_sem, Nat.reduceEqDiff, Nat.reduceBEq, Int.reduceToNat, Int.reduceLT, Int.reduceLE, Int.reduceEq, Nat.reduceLeDiff, Nat.reduceLT, Nat.reduceMul, Nat.reduceAdd, String.reduceEq, i1, i11, hm, encD]
          refine cal_eq (c25 _) ?_
          simp only [go_sem, Nat.reduceEqDiff, Nat.reduceBEq, Int.reduceToNat, Int.reduceLT, Int.reduceLE, Int.reduceEq, Nat.reduceLeDiff, Nat.reduceLT, Nat.reduceMul, Nat.reduceAdd, String.reduceEq, i1, i11, encD]
          refine cal_eq (c22 _) ?_
          simp only [go_sem, Nat.reduceEqDiff, Nat.reduceBEq, Int.reduceToNat, Int.reduceLT, Int.reduceLE, Int.reduceEq, Nat.reduceLeDiff, Nat.reduceLT, Nat.reduceMul, Nat.reduceAdd, String.reduceEq, i1, i11, i12, encD]
          refine hQ .normal _ ?_; clear hQ Q
          exact ⟨rfl, by simp [upd_apply, i2, i11], by first | rfl | exact hm | (cases b22 <;> rfl)⟩
        | false =>
          cases b55 with
          | true =>
            refine TS.of [1] fun Q hQ => ?_
            simp only [go_sem, Nat.reduceEqDiff, Nat.reduceBEq, Int.reduceToNat, Int.reduceLT, Int.reduceLE, Int.reduceEq, Nat.reduceLeDiff, Nat.reduceLT, Nat.reduceMul, Nat.reduceAdd, String.reduceEq, i1, i11, hm, encD]
            refine cal_eq (c25 _) ?_
            simp only [go_sem, Nat.reduceEqDiff, Nat.reduceBEq, Int.reduceToNat, Int.reduceLT, Int.reduceLE, Int.reduceEq, Nat.reduceLeDiff, Nat.reduceLT, Nat.reduceMul, Nat.reduceAdd, String.reduceEq, i1, i11, encD]
            refine cal_eq (c22 _) ?_
            simp only [go_sem, Nat.reduceEqDiff, Nat.reduceBEq, Int.reduceToNat, Int.reduceLT, Int.reduceLE, Int.reduceEq, Nat.reduceLeDiff, Nat.reduceLT, Nat.reduceMul, Nat.reduceAdd, String.reduceEq, i1, i11, i12, encD]
            refine cal_eq (c55 _) ?_
            simp only [go_sem, Nat.reduceEqDiff, Nat.reduceBEq, Int.reduceToNat, Int.reduceLT, Int.reduceLE, Int.reduceEq, Nat.reduceLeDiff, Nat.reduceLT, Nat.reduceMul, Nat.reduceAdd, String.reduceEq, i1, i11, i12, encD]
            refine hQ .normal _ ?_; clear hQ Q
            exact ⟨rfl, by simp [upd_apply, i2, i11], by first | rfl | exact hm | (cases b22 <;> rfl)⟩
          | false =>
            cases ro with
            | true =>
              refine TS.of [1] fun Q hQ => ?_
              simp only [go_sem, Nat.reduceEqDiff, Nat.reduceBEq, Int.reduceToNat, Int.reduceLT, Int.reduceLE, Int.reduceEq, Nat.reduceLeDiff, Nat.reduceLT, Nat.reduceMul, Nat.reduceAdd, String.reduceEq, i1, i11, hm, encD]
              refine cal_eq (c25 _) ?_
              simp only [go_sem, Nat.reduceEqDiff, Nat.reduceBEq, Int.reduceToNat, Int.reduceLT, Int.reduceLE, Int.reduceEq, Nat.reduceLeDiff, Nat.reduceLT, Nat.reduceMul, Nat.reduceAdd, String.reduceEq, i1, i11, encD]
              refine cal_eq (c22 _) ?_
              simp only [go_sem, Nat.reduceEqDiff, Nat.reduceBEq, Int.reduceToNat, Int.reduceLT, Int.reduceLE, Int.reduceEq, Nat.reduceLeDiff, Nat.reduceLT, Nat.reduceMul, Nat.reduceAdd, String.reduceEq, i1, i11, i12, encD]
              refine cal_eq (c55 _) ?_
              simp only [go_sem, Nat.reduceEqDiff, Nat.reduceBEq, Int.reduceToNat, Int.reduceLT, Int.reduceLE, Int.reduceEq, Nat.reduceLeDiff, Nat.reduceLT, Nat.reduceMul, Nat.reduceAdd, String.reduceEq, i1, i11, i12, encD]
              refine hQ .normal _ ?_; clear hQ Q
              exact ⟨rfl, by simp [upd_apply, i2, i11], by first | rfl | exact hm | (cases b22 <;> rfl)⟩
            | false =>
              refine TS.of [1] fun Q hQ => ?_
              simp only [go_sem, Nat.reduceEqDiff, Nat.reduceBEq, Int.reduceToNat, Int.reduceLT, Int.reduceLE, Int.reduceEq, Nat.reduceLeDiff, Nat.reduceLT, Nat.reduceMul, Nat.reduceAdd, String.reduceEq, i1, i11, hm, encD]
              refine cal_eq (c25 _) ?_
              simp only [go_sem, Nat.reduceEqDiff, Nat.reduceBEq, Int.reduceToNat, Int.reduceLT, Int.reduceLE, Int.reduceEq, Nat.reduceLeDiff, Nat.reduceLT, Nat.reduceMul, Nat.reduceAdd, String.reduceEq, i1, i11, encD]
              refine cal_eq (c22 _) ?_
              simp only [go_sem, Nat.reduceEqDiff, Nat.reduceBEq, Int.reduceToNat, Int.reduceLT, Int.reduceLE, Int.reduceEq, Nat.reduceLeDiff, Nat.reduceLT, Nat.reduceMul, Nat.reduceAdd, String.reduceEq, i1, i11, i12, encD]
              refine cal_eq (c55 _) ?_
              simp only [go_sem, Nat.reduceEqDiff, Nat.reduceBEq, Int.reduceToNat, Int.reduceLT, Int.reduceLE, Int.reduceEq, Nat.reduceLeDiff, Nat.reduceLT, Nat.reduceMul, Nat.reduceAdd, String.reduceEq, i1, i11, i12, encD]
              refine hQ .normal _ ?_; clear hQ Q
              exact ⟨rfl, by simp [upd_apply, i2, i11], by first | rfl | exact hm | (cases b22 <;> rfl)⟩
    clear i1 i2 i11 i12 hm
    rintro e s ⟨rfl, ⟨i2, i11⟩, hm⟩
    generalize (if b25 = true then (if (!b22 && (!b55 && !ro)) = true then 2 else 3) else 1 : Int) = md at hm ⊢
    refine TS.of [] fun Q hQ => ?_
    simp only [go_sem, Nat.reduceEqDiff, Nat.reduceBEq, Int.reduceToNat, Int.reduceLT, Int.reduceLE, Int.reduceEq, Nat.reduceLeDiff, Nat.reduceLT, Nat.reduceMul, Nat.reduceAdd, String.reduceEq, i2, i11, hm]
    refine hQ .ret _ ?_; clear hQ Q; refine post_ret _ _ (.tup [.agg (encI ⟨md, G.1, dl.length, tn⟩), ii 0, ii 0]) ?_ ?_ (DropW.tail [_, _, _] rs rfl) ⟨rfl, rfl⟩
    · simp only [go_sem, Nat.reduceEqDiff, Nat.reduceBEq, Int.reduceToNat, Int.reduceLT, Int.reduceLE, Int.reduceEq, Nat.reduceLeDiff, Nat.reduceLT, Nat.reduceMul, Nat.reduceAdd, String.reduceEq, i2, i11] <;> rfl
    · rfl
  · have hv : rcheck d = (Info0, F.1, F.2) := by
      rw [rcheck, if_neg h8, if_pos (by rw [← hF]; simpa using hf0), ← hF]
    rw [hv]
    refine TS.of [] fun Q hQ => ?_
    simp only [go_sem, Nat.reduceEqDiff, Nat.reduceBEq, Int.reduceToNat, Int.reduceLT, Int.reduceLE, Int.reduceEq, Nat.reduceLeDiff, Nat.reduceLT, Nat.reduceMul, Nat.reduceAdd, String.reduceEq, i1, i2, i5, i8, hm, hf0]
    refine drn_of ⟨[], [110, 114], [m.objs.length + 1]⟩ [0, 0, 2, 6, 14, 0, 32, 96, 224, 1, 543, 2047] (by kernel_rfl) ?_
    simp only [go_sem, Nat.reduceEqDiff, Nat.reduceBEq, Int.reduceToNat, Int.reduceLT, Int.reduceLE, Int.reduceEq, Nat.reduceLeDiff, Nat.reduceLT, Nat.reduceMul, Nat.reduceAdd, String.reduceEq, i1, i2, i5, i8, hf0, hne]
    refine hQ .ret _ ?_; clear hQ Q; refine post_ret _ _ (.tup [.agg (encI Info0), ii F.1, ii F.2]) ?_ ?_ (DropW.tail [_, _] rs rfl) ⟨rfl, rfl⟩
    · simp only [go_sem, Nat.reduceEqDiff, Nat.reduceBEq, Int.reduceToNat, Int.reduceLT, Int.reduceLE, Int.reduceEq, Nat.reduceLeDiff, Nat.reduceLT, Nat.reduceMul, Nat.reduceAdd, String.reduceEq, i2] <;> rfl
    · rfl
end Go.Proofs.Ytphjldhdnmoolaa.A
