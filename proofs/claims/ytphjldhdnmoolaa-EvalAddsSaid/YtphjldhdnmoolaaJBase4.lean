/- Joined: R1, R2, R3, R4, R5, P0, R6, P1, R7, P2, P3, P4, P5, H0, H1 -/
import Derived.Test.YtphjldhdnmoolaaJBase3
set_option linter.unusedVariables false
set_option linter.unusedSimpArgs false
/- The walks of some functions over the abstract machine. -/
namespace Go.Proofs.Ytphjldhdnmoolaa.A
open Go
/-! ref08: has, reads -/
mutual
def hasT (a b : Int) : Stmt → Bool
  | .mk k _ _ _ x y _ => (decide (a ≤ k) && decide (k ≤ b)) || (hasTs a b x || hasTs a b y)
def hasTs (a b : Int) : List Stmt → Bool
  | [] => false
  | s :: l => hasT a b s || hasTs a b l
end
mutual
def readsT : Stmt → Bool
  | .mk _ _ x _ b e _ => cells x || (readsTs b || readsTs e)
def readsTs : List Stmt → Bool
  | [] => false
  | s :: l => readsT s || readsTs l
end
theorem hasT_eq (a b : Int) (s : Stmt) : hasT a b s = ((decide (a ≤ s.k) && decide (s.k ≤ b)) || (hasTs a b s.b || hasTs a b s.e)) := by cases s; rfl
theorem readsT_eq (s : Stmt) : readsT s = (cells s.x || (readsTs s.b || readsTs s.e)) := by cases s; rfl
set_option maxRecDepth 100000 in
set_option maxHeartbeats 4000000 in
theorem hasS_sim (a b : Int) : ∀ (N : Nat), N < 900000 → ∀ (l : List Stmt), szt l ≤ N → ∀ m : Mem, Sim 34 [slT l, ii a, ii b] m (fun r m' => r = bb (hasTs a b l) ∧ m' = m) := by
  intro N
  induction N using Nat.strongRecOn with
  | ind N ih =>
  intro hB l hN m
  have hll := szt_len l
  refine Sim.ofS 50 [.tmp 6] Try.func34 rfl rfl rfl (by simp) fun wr => ?_
  simp only [go_sem, Nat.reduceEqDiff, Nat.reduceBEq, Int.reduceToNat, Int.reduceLT, Int.reduceLE, Int.reduceEq, Nat.reduceLeDiff, Nat.reduceLT, Nat.reduceMul, Nat.reduceAdd, String.reduceEq]
  refine TS.seq (TS.of [] fun Q hQ => ?_)
  simp only [go_sem, Nat.reduceEqDiff, Nat.reduceBEq, Int.reduceToNat, Int.reduceLT, Int.reduceLE, Int.reduceEq, Nat.reduceLeDiff, Nat.reduceLT, Nat.reduceMul, Nat.reduceAdd, String.reduceEq]
  refine hQ .normal _ ?_; clear hQ Q
  refine TS.seq (TS.seq (TS.of [] fun Q hQ => ?_))
  simp only [go_sem, Nat.reduceEqDiff, Nat.reduceBEq, Int.reduceToNat, Int.reduceLT, Int.reduceLE, Int.reduceEq, Nat.reduceLeDiff, Nat.reduceLT, Nat.reduceMul, Nat.reduceAdd, String.reduceEq]
  refine hQ .normal _ ?_; clear hQ Q
  refine TS.block (TS.loop (α := Nat) (fun k => [(0, slT l), (1, ii a), (2, ii b), (7, ii k)]) (fun _ => m) (fun k => k ≤ l.length ∧ hasTs a b (l.drop k) = hasTs a b l) (fun k => l.length - k) 0 (by simp) ⟨by simp [Has, upd_apply, argsT], rfl, by simp⟩ ?_)
  rintro k st hH hm ⟨hk, hc⟩
  simp only [Has, List.mem_cons, List.not_mem_nil, or_false, forall_eq_or_imp, forall_eq] at hH; obtain ⟨i0, i1, i2, i7⟩ := hH
  by_cases hlt : k < l.length
  · obtain ⟨x, hx⟩ : ∃ x, l[k]? = some x := ⟨_, List.getElem?_eq_getElem hlt⟩
    have hdr : l.drop k = x :: l.drop (k + 1) := by rw [List.drop_eq_getElem_cons hlt]; congr 1; exact Option.some.inj ((List.getElem?_eq_getElem hlt).symm.trans hx)
    have hat := encTs_at hx
    have hlt7 : k * 7 < (encTs l).length := by rw [encTs_length]; omega
    have hw := wrap_succ hlt (by omega)
    have hszx := szT_at hx
    have hxsz := szT_eq x
    rw [hdr] at hc
    have hb := ih (szt x.b) (by omega) (by omega) x.b (Nat.le_refl _)
    have he := ih (szt x.e) (by omega) (by omega) x.e (Nat.le_refl _)
    rw [hasTs, hasT_eq] at hc
    by_cases c1 : a ≤ x.k
    · by_cases c2 : x.k ≤ b
      · refine TS.of [] fun Q hQ => ?_
        simp only [go_sem, Nat.reduceEqDiff, Nat.reduceBEq, Int.reduceToNat, Int.reduceLT, Int.reduceLE, Int.reduceEq, Nat.reduceLeDiff, Nat.reduceLT, Nat.reduceMul, Nat.reduceAdd, String.reduceEq, i0, i1, i2, i7, hm, hlt, hat, hlt7, eq_true c1, eq_true c2]
        refine hQ .ret _ ?_; exact post_ret _ _ _ rfl rfl (DropW.refl _) ⟨congrArg (fun z => IV.v (Value.bool z)) (hc.symm.trans (by simp [c1, c2])).symm, rfl⟩
      · cases hsb : hasTs a b x.b
        · rw [hsb] at hb hc
          cases hse : hasTs a b x.e
          · rw [hse] at he hc
            refine TS.of [] fun Q hQ => ?_
            simp only [go_sem, Nat.reduceEqDiff, Nat.reduceBEq, Int.reduceToNat, Int.reduceLT, Int.reduceLE, Int.reduceEq, Nat.reduceLeDiff, Nat.reduceLT, Nat.reduceMul, Nat.reduceAdd, String.reduceEq, i0, i1, i2, i7, hm, hlt, hat, hlt7, eq_true c1, eq_false c2]
            refine cal_eq (hb _) ?_
            simp only [go_sem, Nat.reduceEqDiff, Nat.reduceBEq, Int.reduceToNat, Int.reduceLT, Int.reduceLE, Int.reduceEq, Nat.reduceLeDiff, Nat.reduceLT, Nat.reduceMul, Nat.reduceAdd, String.reduceEq, i0, i1, i2, i7, hat, hlt7, hlt, hw, eq_true c1, eq_false c2]
            refine cal_eq (he _) ?_
            simp only [go_sem, Nat.reduceEqDiff, Nat.reduceBEq, Int.reduceToNat, Int.reduceLT, Int.reduceLE, Int.reduceEq, Nat.reduceLeDiff, Nat.reduceLT, Nat.reduceMul, Nat.reduceAdd, String.reduceEq, i0, i1, i2, i7, hat, hlt7, hlt, hw, eq_true c1, eq_false c2]
            refine hQ .normal _ ?_; clear hQ Q
            refine ⟨_, _, k + 1, DropW.refl _, ?_, ⟨hlt, by rw [← hc]; simp [c1, c2]⟩, by omega⟩
            simp [upd_apply, i0, i1, i2, IV.np, np_sh, npTs]
          · rw [hse] at he hc
            refine TS.of [] fun Q hQ => ?_
            simp only [go_sem, Nat.reduceEqDiff, Nat.reduceBEq, Int.reduceToNat, Int.reduceLT, Int.reduceLE, Int.reduceEq, Nat.reduceLeDiff, Nat.reduceLT, Nat.reduceMul, Nat.reduceAdd, String.reduceEq, i0, i1, i2, i7, hm, hlt, hat, hlt7, eq_true c1, eq_false c2]
            refine cal_eq (hb _) ?_
            simp only [go_sem, Nat.reduceEqDiff, Nat.reduceBEq, Int.reduceToNat, Int.reduceLT, Int.reduceLE, Int.reduceEq, Nat.reduceLeDiff, Nat.reduceLT, Nat.reduceMul, Nat.reduceAdd, String.reduceEq, i0, i1, i2, i7, hat, hlt7, hlt, hw, eq_true c1, eq_false c2]
            refine cal_eq (he _) ?_
            simp only [go_sem, Nat.reduceEqDiff, Nat.reduceBEq, Int.reduceToNat, Int.reduceLT, Int.reduceLE, Int.reduceEq, Nat.reduceLeDiff, Nat.reduceLT, Nat.reduceMul, Nat.reduceAdd, String.reduceEq, i0, i1, i2, i7, hat, hlt7, hlt, hw, eq_true c1, eq_false c2]
            refine hQ .ret _ ?_; exact post_ret _ _ _ rfl rfl (DropW.refl _) ⟨congrArg (fun z => IV.v (Value.bool z)) (hc.symm.trans (by simp [c1, c2])).symm, rfl⟩
        · rw [hsb] at hb hc
          refine TS.of [] fun Q hQ => ?_
          simp only [go_sem, Nat.reduceEqDiff, Nat.reduceBEq, Int.reduceToNat, Int.reduceLT, Int.reduceLE, Int.reduceEq, Nat.reduceLeDiff, Nat.reduceLT, Nat.reduceMul, Nat.reduceAdd, String.reduceEq, i0, i1, i2, i7, hm, hlt, hat, hlt7, eq_true c1, eq_false c2]
          refine cal_eq (hb _) ?_
          simp only [go_sem, Nat.reduceEqDiff, Nat.reduceBEq, Int.reduceToNat, Int.reduceLT, Int.reduceLE, Int.reduceEq, Nat.reduceLeDiff, Nat.reduceLT, Nat.reduceMul, Nat.reduceAdd, String.reduceEq, i0, i1, i2, i7, hat, hlt7, hlt, hw, eq_true c1, eq_false c2]
          refine hQ .ret _ ?_; exact post_ret _ _ _ rfl rfl (DropW.refl _) ⟨congrArg (fun z => IV.v (Value.bool z)) (hc.symm.trans (by simp [c1, c2])).symm, rfl⟩
    · cases hsb : hasTs a b x.b
      · rw [hsb] at hb hc
        cases hse : hasTs a b x.e
        · rw [hse] at he hc
          refine TS.of [] fun Q hQ => ?_
          simp only [go_sem, Nat.reduceEqDiff, Nat.reduceBEq, Int.reduceToNat, Int.reduceLT, Int.reduceLE, Int.reduceEq, Nat.reduceLeDiff, Nat.reduceLT, Nat.reduceMul, Nat.reduceAdd, String.reduceEq, i0, i1, i2, i7, hm, hlt, hat, hlt7, eq_false c1]
          refine cal_eq (hb _) ?_
          simp only [go_sem, Nat.reduceEqDiff, Nat.reduceBEq, Int.reduceToNat, Int.reduceLT, Int.reduceLE, Int.reduceEq, Nat.reduceLeDiff, Nat.reduceLT, Nat.reduceMul, Nat.reduceAdd, String.reduceEq, i0, i1, i2, i7, hat, hlt7, hlt, hw, eq_false c1]
          refine cal_eq (he _) ?_
          simp only [go_sem, Nat.reduceEqDiff, Nat.reduceBEq, Int.reduceToNat, Int.reduceLT, Int.reduceLE, Int.reduceEq, Nat.reduceLeDiff, Nat.reduceLT, Nat.reduceMul, Nat.reduceAdd, String.reduceEq, i0, i1, i2, i7, hat, hlt7, hlt, hw, eq_false c1]
          refine hQ .normal _ ?_; clear hQ Q
          refine ⟨_, _, k + 1, DropW.refl _, ?_, ⟨hlt, by rw [← hc]; simp [c1]⟩, by omega⟩
          simp [upd_apply, i0, i1, i2, IV.np, np_sh, npTs]
        · rw [hse] at he hc
          refine TS.of [] fun Q hQ => ?_
          simp only [go_sem, Nat.reduceEqDiff, Nat.reduceBEq, Int.reduceToNat, Int.reduceLT, Int.reduceLE, Int.reduceEq, Nat.reduceLeDiff, Nat.reduceLT, Nat.reduceMul, Nat.reduceAdd, String.reduceEq, i0, i1, i2, i7, hm, hlt, hat, hlt7, eq_false c1]
          refine cal_eq (hb _) ?_
          simp only [go_sem, Nat.reduceEqDiff, Nat.reduceBEq, Int.reduceToNat, Int.reduceLT, Int.reduceLE, Int.reduceEq, Nat.reduceLeDiff, Nat.reduceLT, Nat.reduceMul, Nat.reduceAdd, String.reduceEq, i0, i1, i2, i7, hat, hlt7, hlt, hw, eq_false c1]
          refine cal_eq (he _) ?_
          simp only [go_sem, Nat.reduceEqDiff, Nat.reduceBEq, Int.reduceToNat, Int.reduceLT, Int.reduceLE, Int.reduceEq, Nat.reduceLeDiff, Nat.reduceLT, Nat.reduceMul, Nat.reduceAdd, String.reduceEq, i0, i1, i2, i7, hat, hlt7, hlt, hw, eq_false c1]
          refine hQ .ret _ ?_; exact post_ret _ _ _ rfl rfl (DropW.refl _) ⟨congrArg (fun z => IV.v (Value.bool z)) (hc.symm.trans (by simp [c1])).symm, rfl⟩
      · rw [hsb] at hb hc
        refine TS.of [] fun Q hQ => ?_
        simp only [go_sem, Nat.reduceEqDiff, Nat.reduceBEq, Int.reduceToNat, Int.reduceLT, Int.reduceLE, Int.reduceEq, Nat.reduceLeDiff, Nat.reduceLT, Nat.reduceMul, Nat.reduceAdd, String.reduceEq, i0, i1, i2, i7, hm, hlt, hat, hlt7, eq_false c1]
        refine cal_eq (hb _) ?_
        simp only [go_sem, Nat.reduceEqDiff, Nat.reduceBEq, Int.reduceToNat, Int.reduceLT, Int.reduceLE, Int.reduceEq, Nat.reduceLeDiff, Nat.reduceLT, Nat.reduceMul, Nat.reduceAdd, String.reduceEq, i0, i1, i2, i7, hat, hlt7, hlt, hw, eq_false c1]
        refine hQ .ret _ ?_; exact post_ret _ _ _ rfl rfl (DropW.refl _) ⟨congrArg (fun z => IV.v (Value.bool z)) (hc.symm.trans (by simp [c1])).symm, rfl⟩
  · refine TS.of [] fun Q hQ => ?_
    simp only [go_sem, Nat.reduceEqDiff, Nat.reduceBEq, Int.reduceToNat, Int.reduceLT, Int.reduceLE, Int.reduceEq, Nat.reduceLeDiff, Nat.reduceLT, Nat.reduceMul, Nat.reduceAdd, String.reduceEq, i0, i1, i2, i7, hm, hlt]
    refine hQ (.exit 0) _ ?_; clear hQ Q
    rw [List.drop_eq_nil_of_le (by omega), hasTs] at hc
    refine TS.of [] fun Q hQ => ?_
    simp only [go_sem, Nat.reduceEqDiff, Nat.reduceBEq, Int.reduceToNat, Int.reduceLT, Int.reduceLE, Int.reduceEq, Nat.reduceLeDiff, Nat.reduceLT, Nat.reduceMul, Nat.reduceAdd, String.reduceEq]
    refine hQ .ret _ ?_; exact post_ret _ _ _ rfl rfl (DropW.refl _) ⟨by rw [← hc]; rfl, rfl⟩
set_option maxRecDepth 100000 in
set_option maxHeartbeats 4000000 in
theorem reads_sim : ∀ (N : Nat), N < 900000 → ∀ (l : List Stmt), szt l ≤ N → ∀ m : Mem, Sim 35 [slT l] m (fun r m' => r = bb (readsTs l) ∧ m' = m) := by
  intro N
  induction N using Nat.strongRecOn with
  | ind N ih =>
  intro hB l hN m
  have hll := szt_len l
  refine Sim.ofS 32 [.tmp 2] Try.func35 rfl rfl rfl (by simp) fun wr => ?_
  simp only [go_sem, Nat.reduceEqDiff, Nat.reduceBEq, Int.reduceToNat, Int.reduceLT, Int.reduceLE, Int.reduceEq, Nat.reduceLeDiff, Nat.reduceLT, Nat.reduceMul, Nat.reduceAdd, String.reduceEq]
  refine TS.seq (TS.of [] fun Q hQ => ?_)
  simp only [go_sem, Nat.reduceEqDiff, Nat.reduceBEq, Int.reduceToNat, Int.reduceLT, Int.reduceLE, Int.reduceEq, Nat.reduceLeDiff, Nat.reduceLT, Nat.reduceMul, Nat.reduceAdd, String.reduceEq]
  refine hQ .normal _ ?_; clear hQ Q
  refine TS.seq (TS.seq (TS.of [] fun Q hQ => ?_))
  simp only [go_sem, Nat.reduceEqDiff, Nat.reduceBEq, Int.reduceToNat, Int.reduceLT, Int.reduceLE, Int.reduceEq, Nat.reduceLeDiff, Nat.reduceLT, Nat.reduceMul, Nat.reduceAdd, String.reduceEq]
  refine hQ .normal _ ?_; clear hQ Q
  refine TS.block (TS.loop (α := Nat) (fun k => [(0, slT l), (3, ii k)]) (fun _ => m) (fun k => k ≤ l.length ∧ readsTs (l.drop k) = readsTs l) (fun k => l.length - k) 0 (by simp) ⟨by simp [Has, upd_apply, argsT], rfl, by simp⟩ ?_)
  rintro k st hH hm ⟨hk, hc⟩
  simp only [Has, List.mem_cons, List.not_mem_nil, or_false, forall_eq_or_imp, forall_eq] at hH; obtain ⟨i0, i3⟩ := hH
  by_cases hlt : k < l.length
  · obtain ⟨x, hx⟩ : ∃ x, l[k]? = some x := ⟨_, List.getElem?_eq_getElem hlt⟩
    have hdr : l.drop k = x :: l.drop (k + 1) := by rw [List.drop_eq_getElem_cons hlt]; congr 1; exact Option.some.inj ((List.getElem?_eq_getElem hlt).symm.trans hx)
    have hat := encTs_at hx
    have hlt7 : k * 7 < (encTs l).length := by rw [encTs_length]; omega
    have hw := wrap_succ hlt (by omega)
    have hszx := szT_at hx
    have hxsz := szT_eq x
    rw [hdr] at hc
    have hb := ih (szt x.b) (by omega) (by omega) x.b (Nat.le_refl _)
    have he := ih (szt x.e) (by omega) (by omega) x.e (Nat.le_refl _)
    rw [readsTs, readsT_eq] at hc
    have hcl := fun m => cells_sim m (szs x.x) (by omega) x.x (Nat.le_refl _)
    cases hsc : cells x.x
    · rw [hsc] at hcl hc
      cases hsb : readsTs x.b
      · rw [hsb] at hb hc
        cases hse : readsTs x.e
        · rw [hse] at he hc
          refine TS.of [] fun Q hQ => ?_
          simp only [go_sem, Nat.reduceEqDiff, Nat.reduceBEq, Int.reduceToNat, Int.reduceLT, Int.reduceLE, Int.reduceEq, Nat.reduceLeDiff, Nat.reduceLT, Nat.reduceMul, Nat.reduceAdd, String.reduceEq, i0, i3, hm, hlt, hat, hlt7]
          refine cal_eq (hcl _) ?_
          simp only [go_sem, Nat.reduceEqDiff, Nat.reduceBEq, Int.reduceToNat, Int.reduceLT, Int.reduceLE, Int.reduceEq, Nat.reduceLeDiff, Nat.reduceLT, Nat.reduceMul, Nat.reduceAdd, String.reduceEq, i0, i3, hat, hlt7, hlt, hw]
          refine cal_eq (hb _) ?_
          simp only [go_sem, Nat.reduceEqDiff, Nat.reduceBEq, Int.reduceToNat, Int.reduceLT, Int.reduceLE, Int.reduceEq, Nat.reduceLeDiff, Nat.reduceLT, Nat.reduceMul, Nat.reduceAdd, String.reduceEq, i0, i3, hat, hlt7, hlt, hw]
          refine cal_eq (he _) ?_
          simp only [go_sem, Nat.reduceEqDiff, Nat.reduceBEq, Int.reduceToNat, Int.reduceLT, Int.reduceLE, Int.reduceEq, Nat.reduceLeDiff, Nat.reduceLT, Nat.reduceMul, Nat.reduceAdd, String.reduceEq, i0, i3, hat, hlt7, hlt, hw]
          refine hQ .normal _ ?_; clear hQ Q
          refine ⟨_, _, k + 1, DropW.refl _, ?_, ⟨hlt, by rw [← hc]; simp [true_and]⟩, by omega⟩
          simp [upd_apply, i0, IV.np, np_sh, npTs]
        · rw [hse] at he hc
          refine TS.of [] fun Q hQ => ?_
          simp only [go_sem, Nat.reduceEqDiff, Nat.reduceBEq, Int.reduceToNat, Int.reduceLT, Int.reduceLE, Int.reduceEq, Nat.reduceLeDiff, Nat.reduceLT, Nat.reduceMul, Nat.reduceAdd, String.reduceEq, i0, i3, hm, hlt, hat, hlt7]
          refine cal_eq (hcl _) ?_
          simp only [go_sem, Nat.reduceEqDiff, Nat.reduceBEq, Int.reduceToNat, Int.reduceLT, Int.reduceLE, Int.reduceEq, Nat.reduceLeDiff, Nat.reduceLT, Nat.reduceMul, Nat.reduceAdd, String.reduceEq, i0, i3, hat, hlt7, hlt, hw]
          refine cal_eq (hb _) ?_
          simp only [go_sem, Nat.reduceEqDiff, Nat.reduceBEq, Int.reduceToNat, Int.reduceLT, Int.reduceLE, Int.reduceEq, Nat.reduceLeDiff, Nat.reduceLT, Nat.reduceMul, Nat.reduceAdd, String.reduceEq, i0, i3, hat, hlt7, hlt, hw]
          refine cal_eq (he _) ?_
          simp only [go_sem, Nat.reduceEqDiff, Nat.reduceBEq, Int.reduceToNat, Int.reduceLT, Int.reduceLE, Int.reduceEq, Nat.reduceLeDiff, Nat.reduceLT, Nat.reduceMul, Nat.reduceAdd, String.reduceEq, i0, i3, hat, hlt7, hlt, hw]
          refine hQ .ret _ ?_; exact post_ret _ _ _ rfl rfl (DropW.refl _) ⟨congrArg (fun z => IV.v (Value.bool z)) (hc.symm.trans (by simp [true_and])).symm, rfl⟩
      · rw [hsb] at hb hc
        refine TS.of [] fun Q hQ => ?_
        simp only [go_sem, Nat.reduceEqDiff, Nat.reduceBEq, Int.reduceToNat, Int.reduceLT, Int.reduceLE, Int.reduceEq, Nat.reduceLeDiff, Nat.reduceLT, Nat.reduceMul, Nat.reduceAdd, String.reduceEq, i0, i3, hm, hlt, hat, hlt7]
        refine cal_eq (hcl _) ?_
        simp only [go_sem, Nat.reduceEqDiff, Nat.reduceBEq, Int.reduceToNat, Int.reduceLT, Int.reduceLE, Int.reduceEq, Nat.reduceLeDiff, Nat.reduceLT, Nat.reduceMul, Nat.reduceAdd, String.reduceEq, i0, i3, hat, hlt7, hlt, hw]
        refine cal_eq (hb _) ?_
        simp only [go_sem, Nat.reduceEqDiff, Nat.reduceBEq, Int.reduceToNat, Int.reduceLT, Int.reduceLE, Int.reduceEq, Nat.reduceLeDiff, Nat.reduceLT, Nat.reduceMul, Nat.reduceAdd, String.reduceEq, i0, i3, hat, hlt7, hlt, hw]
        refine hQ .ret _ ?_; exact post_ret _ _ _ rfl rfl (DropW.refl _) ⟨congrArg (fun z => IV.v (Value.bool z)) (hc.symm.trans (by simp [true_and])).symm, rfl⟩
    · rw [hsc] at hcl hc
      refine TS.of [] fun Q hQ => ?_
      simp only [go_sem, Nat.reduceEqDiff, Nat.reduceBEq, Int.reduceToNat, Int.reduceLT, Int.reduceLE, Int.reduceEq, Nat.reduceLeDiff, Nat.reduceLT, Nat.reduceMul, Nat.reduceAdd, String.reduceEq, i0, i3, hm, hlt, hat, hlt7]
      refine cal_eq (hcl _) ?_
      simp only [go_sem, Nat.reduceEqDiff, Nat.reduceBEq, Int.reduceToNat, Int.reduceLT, Int.reduceLE, Int.reduceEq, Nat.reduceLeDiff, Nat.reduceLT, Nat.reduceMul, Nat.reduceAdd, String.reduceEq, i0, i3, hat, hlt7, hlt, hw]
      refine hQ .ret _ ?_; exact post_ret _ _ _ rfl rfl (DropW.refl _) ⟨congrArg (fun z => IV.v (Value.bool z)) (hc.symm.trans (by simp [true_and])).symm, rfl⟩
  · refine TS.of [] fun Q hQ => ?_
    simp only [go_sem, Nat.reduceEqDiff, Nat.reduceBEq, Int.reduceToNat, Int.reduceLT, Int.reduceLE, Int.reduceEq, Nat.reduceLeDiff, Nat.reduceLT, Nat.reduceMul, Nat.reduceAdd, String.reduceEq, i0, i3, hm, hlt]
    refine hQ (.exit 0) _ ?_; clear hQ Q
    rw [List.drop_eq_nil_of_le (by omega), readsTs] at hc
    refine TS.of [] fun Q hQ => ?_
    simp only [go_sem, Nat.reduceEqDiff, Nat.reduceBEq, Int.reduceToNat, Int.reduceLT, Int.reduceLE, Int.reduceEq, Nat.reduceLeDiff, Nat.reduceLT, Nat.reduceMul, Nat.reduceAdd, String.reduceEq]
    refine hQ .ret _ ?_; exact post_ret _ _ _ rfl rfl (DropW.refl _) ⟨by rw [← hc]; rfl, rfl⟩
end Go.Proofs.Ytphjldhdnmoolaa.A
/- The walks of some functions over the abstract machine. -/
namespace Go.Proofs.Ytphjldhdnmoolaa.A
open Go
/-! ref08: faults, wants, kind, need -/
def failF (st : Int × Int) (code at_ : Int) : Int × Int := if st.1 = 0 then (code, at_) else st
abbrev cellsF (sl : IV) (st : Int × Int) : List IV := [sl, ii st.1, ii st.2]
abbrev FM (B : List IObj) (sl : IV) (st : Int × Int) (R : List IObj) : List IObj := B ++ (.cells (cellsF sl st) :: R)
def SimF (f : FuncId) (args : List IV) (st : Int × Int) (r : IV) (st' : Int × Int) : Prop := ∀ (B R : List IObj) (rw_ : List Nat) (sl : IV), (∀ no, sl.np no rw_.length = true) → Sim f (.ptr B.length 0 :: args) ⟨FM B sl st R, rw_⟩ (fun x m' => x = r ∧ m' = ⟨FM B sl st' R, rw_⟩)
theorem DropW.fm (B : List IObj) (sl : IV) (st st' : Int × Int) (R X : List IObj) (R0 R1 R2 : List Nat) (h3 : R0.length ≤ R1.length) (h4 : R2.take R1.length = R1) (hs : ∀ no, sl.np no R1.length = true) : DropW ⟨FM B sl st R, R0⟩ (B.length + (R.length + 1)) R1.length ⟨FM B sl st' (R ++ X), R2⟩ ⟨FM B sl st' R, R1⟩ := by
  refine ⟨?_, h4.symm, by simp, h3, fun o x hx hl => ?_⟩
  · simp only [FM]
    rw [List.take_append, List.take_of_length_le (by omega)]
    congr 1
    rw [show B.length + (R.length + 1) - B.length = R.length + 1 by omega]
    simp
  · simp only [FM] at hx
    by_cases h1 : o < B.length
    · left; rw [List.getElem?_append_left h1] at hx; simp only [FM]; rw [List.getElem?_append_left h1]; exact hx
    · rw [List.getElem?_append_right (by omega)] at hx
      generalize hk : o - B.length = k at hx
      match k, hx with
      | 0, hx => right; simp at hx; subst hx; simp [IObj.np, npL, IV.np, hs]
      | k + 1, hx =>
        left
        simp only [FM]
        rw [List.getElem?_append_right (by omega), hk]
        simp only [List.getElem?_cons_succ] at hx ⊢
        rw [List.getElem?_append_left (by omega)] at hx
        exact hx
theorem DropW.fm0 (B : List IObj) (sl : IV) (st st' : Int × Int) (R : List IObj) (rw_ : List Nat) (hs : ∀ no, sl.np no rw_.length = true) : DropW ⟨FM B sl st R, rw_⟩ (B.length + (R.length + 1)) rw_.length ⟨FM B sl st' R, rw_⟩ ⟨FM B sl st' R, rw_⟩ := by
  have h := DropW.fm B sl st st' R [] rw_ rw_ rw_ (Nat.le_refl _) (by simp) hs
  rwa [List.append_nil] at h
theorem SimF.mem {f : FuncId} {args : List IV} {st st' : Int × Int} {r : IV} (h : SimF f args st r st') (B R : List IObj) (rw_ : List Nat) (sl : IV) (hs : ∀ no, sl.np no rw_.length = true) : Sim f (.ptr B.length 0 :: args) ⟨FM B sl st R, rw_⟩ (fun x m' => x = r ∧ m' = ⟨FM B sl st' R, rw_⟩) := h B R rw_ sl hs
set_option maxRecDepth 100000 in
set_option maxHeartbeats 4000000 in
theorem rfail_sim (st : Int × Int) (code at_ : Int) : SimF 53 [ii code, ii at_] st (.tup []) (failF st code at_) := by
  intro B R rw_ sl hs
  obtain ⟨c, a⟩ := st
  refine Sim.ofS 19 [] Try.func53 rfl rfl rfl (by simp) fun wr => ?_
  simp only [go_sem, Nat.reduceEqDiff, Nat.reduceBEq, Int.reduceToNat, Int.reduceLT, Int.reduceLE, Int.reduceEq, Nat.reduceLeDiff, Nat.reduceLT, Nat.reduceMul, Nat.reduceAdd, String.reduceEq]
  by_cases h : c = 0
  · refine TS.of [] fun Q hQ => ?_
    simp only [go_sem, Nat.reduceEqDiff, Nat.reduceBEq, Int.reduceToNat, Int.reduceLT, Int.reduceLE, Int.reduceEq, Nat.reduceLeDiff, Nat.reduceLT, Nat.reduceMul, Nat.reduceAdd, String.reduceEq, eq_true h]
    refine hQ .normal _ ?_
    exact post_end _ _ (.tup []) (by simp only [go_sem, Nat.reduceEqDiff, Nat.reduceBEq, Int.reduceToNat, Int.reduceLT, Int.reduceLE, Int.reduceEq, Nat.reduceLeDiff, Nat.reduceLT, Nat.reduceMul, Nat.reduceAdd, String.reduceEq]) rfl (DropW.fm0 B sl (c, a) (code, at_) R rw_ hs) ⟨rfl, by rw [failF, if_pos h]⟩
  · refine TS.of [] fun Q hQ => ?_
    simp only [go_sem, Nat.reduceEqDiff, Nat.reduceBEq, Int.reduceToNat, Int.reduceLT, Int.reduceLE, Int.reduceEq, Nat.reduceLeDiff, Nat.reduceLT, Nat.reduceMul, Nat.reduceAdd, String.reduceEq, eq_false h]
    refine hQ .normal _ ?_
    exact post_end _ _ (.tup []) (by simp only [go_sem, Nat.reduceEqDiff, Nat.reduceBEq, Int.reduceToNat, Int.reduceLT, Int.reduceLE, Int.reduceEq, Nat.reduceLeDiff, Nat.reduceLT, Nat.reduceMul, Nat.reduceAdd, String.reduceEq]) rfl (DropW.fm0 B sl (c, a) (c, a) R rw_ hs) ⟨rfl, by rw [failF, if_neg h]⟩
def wantsP (k : Int) (s : Bytes) (i : Nat) (T : List Int) : Int := if k = 4 then 2 else if k ≠ 6 then 1 else if s = qAnd ∨ s = qOr then 2 else if s = qEq ∨ s = qNe then (if i = 0 then 0 else T.headD 0) else 1
set_option maxRecDepth 100000 in
set_option maxHeartbeats 4000000 in
theorem wants_sim (m : Mem) (e : Expr) (i : Nat) (t0 : Int) (T : List Int) : Sim 95 [.agg (encE e), ii i, .sl .sh (T.length + 1) (ii t0 :: T.map (IV.v <| .int .i64 ·))] m (fun r m' => r = ii (wantsP e.k e.s i (t0 :: T)) ∧ m' = m) := by
  refine Sim.ofS 26 [.tmp 6] Try.func95 rfl rfl rfl (by simp) fun wr => ?_
  simp only [go_sem, Nat.reduceEqDiff, Nat.reduceBEq, Int.reduceToNat, Int.reduceLT, Int.reduceLE, Int.reduceEq, Nat.reduceLeDiff, Nat.reduceLT, Nat.reduceMul, Nat.reduceAdd, String.reduceEq]
  have hT : (0 : Int) < ((T.length + 1 : Nat) : Int) := by omega
  have hT2 : 0 < (T.map (IV.v <| .int .i64 ·)).length + 1 := by omega
  by_cases k4 : e.k = 4
  · have hv : wantsP e.k e.s i (t0 :: T) = 2 := by rw [wantsP, if_pos k4]
    refine TS.of [3] fun Q hQ => ?_
    simp only [go_sem, Nat.reduceEqDiff, Nat.reduceBEq, Int.reduceToNat, Int.reduceLT, Int.reduceLE, Int.reduceEq, Nat.reduceLeDiff, Nat.reduceLT, Nat.reduceMul, Nat.reduceAdd, String.reduceEq, encE_eq, eq_true k4]
    refine hQ .ret _ ?_; exact post_ret _ _ _ rfl rfl (DropW.refl _) ⟨by rw [hv]; rfl, rfl⟩
  by_cases k6 : e.k = 6
  · by_cases s1 : e.s = qAnd
    · have d1 : decide (e.s = ({ data := #[38, 38] } : Bytes)) = true := decide_eq_true s1
      have hv : wantsP e.k e.s i (t0 :: T) = 2 := by rw [wantsP, if_neg k4, if_neg (by simpa using k6), if_pos (.inl s1)]
      refine TS.of [3] fun Q hQ => ?_
      simp only [go_sem, Nat.reduceEqDiff, Nat.reduceBEq, Int.reduceToNat, Int.reduceLT, Int.reduceLE, Int.reduceEq, Nat.reduceLeDiff, Nat.reduceLT, Nat.reduceMul, Nat.reduceAdd, String.reduceEq, encE_eq, eq_false k4, eq_true k6, d1]
      refine hQ .ret _ ?_; exact post_ret _ _ _ rfl rfl (DropW.refl _) ⟨by rw [hv]; rfl, rfl⟩
    have d1 : decide (e.s = ({ data := #[38, 38] } : Bytes)) = false := decide_eq_false s1
    by_cases s2 : e.s = qOr
    · have d2 : decide (e.s = ({ data := #[124, 124] } : Bytes)) = true := decide_eq_true s2
      have hv : wantsP e.k e.s i (t0 :: T) = 2 := by rw [wantsP, if_neg k4, if_neg (by simpa using k6), if_pos (.inr s2)]
      refine TS.of [3] fun Q hQ => ?_
      simp only [go_sem, Nat.reduceEqDiff, Nat.reduceBEq, Int.reduceToNat, Int.reduceLT, Int.reduceLE, Int.reduceEq, Nat.reduceLeDiff, Nat.reduceLT, Nat.reduceMul, Nat.reduceAdd, String.reduceEq, encE_eq, eq_false k4, eq_true k6, d1, d2]
      refine hQ .ret _ ?_; exact post_ret _ _ _ rfl rfl (DropW.refl _) ⟨by rw [hv]; rfl, rfl⟩
    have d2 : decide (e.s = ({ data := #[124, 124] } : Bytes)) = false := decide_eq_false s2
    have hn : ¬ (e.s = qAnd ∨ e.s = qOr) := by rintro (h | h); exact s1 h; exact s2 h
    by_cases s3 : e.s = qEq ∨ e.s = qNe
    · have hv : wantsP e.k e.s i (t0 :: T) = if i = 0 then 0 else t0 := by rw [wantsP, if_neg k4, if_neg (by simpa using k6), if_neg hn, if_pos s3]; rfl
      by_cases s4 : e.s = qEq
      · have d3 : decide (e.s = ({ data := #[61, 61] } : Bytes)) = true := decide_eq_true s4
        by_cases hi : i = 0
        · subst hi
          refine TS.of [3] fun Q hQ => ?_
          simp only [go_sem, Nat.reduceEqDiff, Nat.reduceBEq, Int.reduceToNat, Int.reduceLT, Int.reduceLE, Int.reduceEq, Nat.reduceLeDiff, Nat.reduceLT, Nat.reduceMul, Nat.reduceAdd, String.reduceEq, encE_eq, eq_false k4, eq_true k6, d1, d2, d3]
          refine hQ .ret _ ?_; exact post_ret _ _ _ rfl rfl (DropW.refl _) ⟨by rw [hv]; rfl, rfl⟩
        · have hi' : ¬ ((i : Int) = 0) := by omega
          refine TS.of [3] fun Q hQ => ?_
          simp only [go_sem, Nat.reduceEqDiff, Nat.reduceBEq, Int.reduceToNat, Int.reduceLT, Int.reduceLE, Int.reduceEq, Nat.reduceLeDiff, Nat.reduceLT, Nat.reduceMul, Nat.reduceAdd, String.reduceEq, encE_eq, eq_false k4, eq_true k6, d1, d2, d3, eq_false hi', hT, hT2, Nat.zero_lt_succ]
          refine hQ .ret _ ?_; exact post_ret _ _ _ rfl rfl (DropW.refl _) ⟨by rw [hv, if_neg hi]; rfl, rfl⟩
      · have s5 : e.s = qNe := by rcases s3 with h | h; exact absurd h s4; exact h
        have d3 : decide (e.s = ({ data := #[61, 61] } : Bytes)) = false := decide_eq_false s4
        have d4 : decide (e.s = ({ data := #[33, 61] } : Bytes)) = true := decide_eq_true s5
        by_cases hi : i = 0
        · subst hi
          refine TS.of [3] fun Q hQ => ?_
          simp only [go_sem, Nat.reduceEqDiff, Nat.reduceBEq, Int.reduceToNat, Int.reduceLT, Int.reduceLE, Int.reduceEq, Nat.reduceLeDiff, Nat.reduceLT, Nat.reduceMul, Nat.reduceAdd, String.reduceEq, encE_eq, eq_false k4, eq_true k6, d1, d2, d3, d4]
          refine hQ .ret _ ?_; exact post_ret _ _ _ rfl rfl (DropW.refl _) ⟨by rw [hv]; rfl, rfl⟩
        · have hi' : ¬ ((i : Int) = 0) := by omega
          refine TS.of [3] fun Q hQ => ?_
          simp only [go_sem, Nat.reduceEqDiff, Nat.reduceBEq, Int.reduceToNat, Int.reduceLT, Int.reduceLE, Int.reduceEq, Nat.reduceLeDiff, Nat.reduceLT, Nat.reduceMul, Nat.reduceAdd, String.reduceEq, encE_eq, eq_false k4, eq_true k6, d1, d2, d3, d4, eq_false hi', hT, hT2, Nat.zero_lt_succ]
          refine hQ .ret _ ?_; exact post_ret _ _ _ rfl rfl (DropW.refl _) ⟨by rw [hv, if_neg hi]; rfl, rfl⟩
    · have d3 : decide (e.s = ({ data := #[61, 61] } : Bytes)) = false := decide_eq_false fun h => s3 (.inl h)
      have d4 : decide (e.s = ({ data := #[33, 61] } : Bytes)) = false := decide_eq_false fun h => s3 (.inr h)
      have hv : wantsP e.k e.s i (t0 :: T) = 1 := by rw [wantsP, if_neg k4, if_neg (by simpa using k6), if_neg hn, if_neg s3]
      refine TS.of [3] fun Q hQ => ?_
      simp only [go_sem, Nat.reduceEqDiff, Nat.reduceBEq, Int.reduceToNat, Int.reduceLT, Int.reduceLE, Int.reduceEq, Nat.reduceLeDiff, Nat.reduceLT, Nat.reduceMul, Nat.reduceAdd, String.reduceEq, encE_eq, eq_false k4, eq_true k6, d1, d2, d3, d4]
      refine hQ .ret _ ?_; exact post_ret _ _ _ rfl rfl (DropW.refl _) ⟨by rw [hv]; rfl, rfl⟩
  · have hv : wantsP e.k e.s i (t0 :: T) = 1 := by rw [wantsP, if_neg k4, if_pos k6]
    refine TS.of [3] fun Q hQ => ?_
    simp only [go_sem, Nat.reduceEqDiff, Nat.reduceBEq, Int.reduceToNat, Int.reduceLT, Int.reduceLE, Int.reduceEq, Nat.reduceLeDiff, Nat.reduceLT, Nat.reduceMul, Nat.reduceAdd, String.reduceEq, encE_eq, eq_false k4, eq_false k6]
    refine hQ .ret _ ?_; exact post_ret _ _ _ rfl rfl (DropW.refl _) ⟨by rw [hv]; rfl, rfl⟩
end Go.Proofs.Ytphjldhdnmoolaa.A
/- The walks of some functions over the abstract machine. -/
namespace Go.Proofs.Ytphjldhdnmoolaa.A
open Go
/-! ref08: kind, need -/
abbrev Env := List (Bytes × Int)
def encV : Env → List IV
  | [] => []
  | p :: l => ss p.1 :: ii p.2 :: encV l
theorem encV_len : ∀ l : Env, (encV l).length = l.length * 2
  | [] => rfl
  | p :: l => by simp only [encV, List.length_cons, encV_len l]; omega
theorem encV_at : ∀ {l : Env} {k : Nat} {p : Bytes × Int}, l[k]? = some p → (encV l).drop (k * 2) = [ss p.1, ii p.2] ++ encV (l.drop (k + 1))
  | q :: l, 0, p, h => by simp at h; subst h; rfl
  | q :: l, k + 1, p, h => by
    simp at h
    have := encV_at h
    rw [show (k + 1) * 2 = k * 2 + 1 + 1 by omega, encV, List.drop_succ_cons, List.drop_succ_cons, this]; rfl
theorem npV (no nr : Nat) : ∀ l : Env, npL no nr (encV l) = true
  | [] => rfl
  | p :: l => by simp only [encV, npL, npV no nr l]; rfl
theorem encV_app : ∀ (l l' : Env), encV (l ++ l') = encV l ++ encV l'
  | [], l' => rfl
  | p :: l, l' => by simp only [List.cons_append, encV, encV_app l l']
theorem encV_one : ∀ l : Env, (encV l).all IV.one = true
  | [] => rfl
  | p :: l => by simp only [encV, List.all_cons, encV_one l]; rfl
theorem encV_sh : ∀ l : Env, (encV l).map IV.sh = encV l
  | [] => rfl
  | p :: l => by simp only [encV, List.map_cons, encV_sh l]; rfl
abbrev slV (l : Env) : IV := .sl .sh l.length (encV l)
def look (s : Bytes) : Env → Option Int
  | [] => none
  | p :: l => if p.1 = s then some p.2 else look s l
def arith (s : Bytes) : Bool := decide (s = qAdd) || (decide (s = qSub) || (decide (s = qMul) || (decide (s = qDiv) || decide (s = qRem))))
mutual
def kindE : Expr → Env → Int × Int → Int × (Int × Int)
  | .mk k _ s a p, env, st =>
    if k = 2 then (if s = qTrue ∨ s = qFalse then (2, kindA k s a env 0 [] st) else match look s env with
      | some t => (t, kindA k s a env 0 [] st)
      | none => (1, failF (kindA k s a env 0 [] st) 9 p))
    else if k = 4 then (2, kindA k s a env 0 [] st)
    else if k = 6 then ((if arith s then 1 else 2), kindA k s a env 0 [] st)
    else (1, kindA k s a env 0 [] st)
def kindA (k : Int) (s : Bytes) : List Expr → Env → Nat → List Int → Int × Int → Int × Int
  | [], _, _, _, st => st
  | e :: l, env, i, T, st => kindA k s l env (i + 1) (T ++ [(kindE e env st).1]) (if wantsP k s i (T ++ [(kindE e env st).1]) ≠ 0 ∧ (kindE e env st).1 ≠ wantsP k s i (T ++ [(kindE e env st).1]) then failF (kindE e env st).2 10 e.p else (kindE e env st).2)
end
def KC (N : Nat) : Prop := ∀ (e : Expr) (env : Env) (st : Int × Int), szE e ≤ N → env.length < 900000 → SimF 77 [.agg (encE e), slV env] st (ii (kindE e env st).1) (kindE e env st).2
theorem rowsA_lt (r : List Nat) (n : Nat) : r.length ≤ (rowsA r n).length := by unfold rowsA; split <;> simp
theorem rowsA_take (r : List Nat) (n : Nat) : (rowsA r n).take r.length = r := by unfold rowsA; split <;> simp
set_option maxRecDepth 100000 in
set_option maxHeartbeats 4000000 in
theorem kind_step {N : Nat} (hNb : N < 900000) (ih : ∀ M, M < N → KC M) : KC N := by
  intro e env st0 hN henv B R rw_ sl hs
  have hsz := szE_eq e
  have hll := szs_len e.a
  have hmono : ∀ n no, sl.np no (rowsA rw_ n).length = true := fun n no => IV.np_mono (Nat.le_refl _) (rowsA_lt _ _) _ (hs no)
  refine Sim.ofS 97 [.tmp 6] Try.func77 rfl rfl rfl (by simp) fun wr => ?_
  simp only [go_sem, Nat.reduceEqDiff, Nat.reduceBEq, Int.reduceToNat, Int.reduceLT, Int.reduceLE, Int.reduceEq, Nat.reduceLeDiff, Nat.reduceLT, Nat.reduceMul, Nat.reduceAdd, String.reduceEq]
  refine TS.seq (TS.of [4] fun Q hQ => ?_)
  simp only [go_sem, Nat.reduceEqDiff, Nat.reduceBEq, Int.reduceToNat, Int.reduceLT, Int.reduceLE, Int.reduceEq, Nat.reduceLeDiff, Nat.reduceLT, Nat.reduceMul, Nat.reduceAdd, String.reduceEq, encE_eq]
  refine hQ .normal _ ?_; clear hQ Q
  refine TS.seq (TS.of [4] fun Q hQ => ?_)
  simp only [go_sem, Nat.reduceEqDiff, Nat.reduceBEq, Int.reduceToNat, Int.reduceLT, Int.reduceLE, Int.reduceEq, Nat.reduceLeDiff, Nat.reduceLT, Nat.reduceMul, Nat.reduceAdd, String.reduceEq]
  refine hQ .normal _ ?_; clear hQ Q
  generalize hF : kindA e.k e.s e.a env 0 [] st0 = F
  refine TS.seq (TS.mono (Q := fun e1 s => e1 = .normal ∧ (s.t 0 = .ptr B.length 0 ∧ s.t 2 = slV env ∧ s.t 4 = .ref (encE e)) ∧ ∃ n, s.m = ⟨FM B sl F R, rowsA rw_ n⟩) ?_ ?_)
  · refine TS.seq (TS.of [4] fun Q hQ => ?_)
    simp only [go_sem, Nat.reduceEqDiff, Nat.reduceBEq, Int.reduceToNat, Int.reduceLT, Int.reduceLE, Int.reduceEq, Nat.reduceLeDiff, Nat.reduceLT, Nat.reduceMul, Nat.reduceAdd, String.reduceEq, encE_eq]
    refine hQ .normal _ ?_; clear hQ Q
    refine TS.block (TS.loop (α := List Int × (Int × Int)) (fun x => [(0, .ptr B.length 0), (2, slV env), (4, .ref (encE e)), (7, slA rw_.length x.1), (8, ii x.1.length)]) (fun x => ⟨FM B sl x.2 R, rowsA rw_ x.1.length⟩) (fun x => x.1.length ≤ e.a.length ∧ kindA e.k e.s (e.a.drop x.1.length) env x.1.length x.1 x.2 = F) (fun x => e.a.length - x.1.length) ([], st0) (by simp) ⟨by simp [Has, upd_apply, argsT, encE_eq, accK], rfl, by simp [hF]⟩ ?_)
    rintro ⟨T, s1⟩ st hH hm ⟨hk, hrest⟩
    dsimp only at hH hm hk hrest
    simp only [Has, List.mem_cons, List.not_mem_nil, or_false, forall_eq_or_imp, forall_eq] at hH; obtain ⟨i0, i2, i4, i7, i8⟩ := hH
    by_cases hlt : T.length < e.a.length
    · obtain ⟨x, hx⟩ : ∃ x, e.a[T.length]? = some x := ⟨_, List.getElem?_eq_getElem hlt⟩
      have hdr : e.a.drop T.length = x :: e.a.drop (T.length + 1) := by rw [List.drop_eq_getElem_cons hlt]; congr 1; exact Option.some.inj ((List.getElem?_eq_getElem hlt).symm.trans hx)
      have hat := encEs_at hx
      have hlt5 : T.length * 5 < (encEs e.a).length := by rw [encEs_length]; omega
      have hw := wrap_succ hlt (by omega)
      have hszx := szE_at hx
      rw [hdr, kindA] at hrest
      have hsub := (ih (szE x) (by omega) x env s1 (Nat.le_refl _) henv).mem B R (rowsA rw_ T.length) sl (hmono _)
      rw [encE_eq] at hsub
      generalize kindE x env s1 = X at hsub hrest
      obtain ⟨t, s2⟩ := X
      dsimp only at hsub hrest
      have happ := app_rowsA rw_ 3 T.length 1 (by decide)
      have hlen : (T.map (IV.v <| .int .i64 ·)).length = T.length := List.length_map ..
      have hbound : (T.length + 1) * 8 ≤ 140737488355328 := by omega
      have hT1 : (T ++ [t]).length = T.length + 1 := by simp
      have hwt : ∀ m, Sim 95 [.agg (encE e), ii T.length, .sl .sh (T.length + 1) ((T.map (IV.v <| .int .i64 ·)) ++ [ii t])] m (fun r m' => r = ii (wantsP e.k e.s T.length (T ++ [t])) ∧ m' = m) := fun m => by
        cases T with
        | nil => exact wants_sim m e 0 t []
        | cons t0 T' =>
          have := wants_sim m e (t0 :: T').length t0 (T' ++ [t])
          simpa using this
      rw [encE_eq] at hwt
      generalize wantsP e.k e.s T.length (T ++ [t]) = w at hwt hrest
      by_cases hc : w ≠ 0 ∧ t ≠ w
      · rw [if_pos hc] at hrest
        have hf := (rfail_sim s2 10 x.p).mem B R (rowsA rw_ (T.length + 1)) sl (hmono _)
        refine TS.of [4] fun Q hQ => ?_
        simp only [go_sem, Nat.reduceEqDiff, Nat.reduceBEq, Int.reduceToNat, Int.reduceLT, Int.reduceLE, Int.reduceEq, Nat.reduceLeDiff, Nat.reduceLT, Nat.reduceMul, Nat.reduceAdd, String.reduceEq, i0, i2, i4, i7, i8, encE_eq, hm, hlt, hat, hlt5]
        refine cal_eq hsub ?_
        simp only [go_sem, Nat.reduceEqDiff, Nat.reduceBEq, Int.reduceToNat, Int.reduceLT, Int.reduceLE, Int.reduceEq, Nat.reduceLeDiff, Nat.reduceLT, Nat.reduceMul, Nat.reduceAdd, String.reduceEq, i0, i2, i4, i7, i8, encE_eq, happ, hlen, hbound]
        refine cal_eq (hwt _) ?_
        simp only [go_sem, Nat.reduceEqDiff, Nat.reduceBEq, Int.reduceToNat, Int.reduceLT, Int.reduceLE, Int.reduceEq, Nat.reduceLeDiff, Nat.reduceLT, Nat.reduceMul, Nat.reduceAdd, String.reduceEq, i0, i2, i4, i7, i8, encE_eq, eq_false hc.1, eq_false hc.2, hlt, hat, hlt5]
        refine cal_eq hf ?_
        simp only [go_sem, Nat.reduceEqDiff, Nat.reduceBEq, Int.reduceToNat, Int.reduceLT, Int.reduceLE, Int.reduceEq, Nat.reduceLeDiff, Nat.reduceLT, Nat.reduceMul, Nat.reduceAdd, String.reduceEq, i0, i2, i4, i7, i8, hw]
        refine hQ .normal _ ?_; clear hQ Q
        refine ⟨B.length + (R.length + 1), (rowsA rw_ (T.length + 1)).length, (T ++ [t], failF s2 10 x.p), by rw [hT1]; have h := DropW.fm B sl s1 (failF s2 10 x.p) R [] (rowsA rw_ T.length) (rowsA rw_ (T.length + 1)) (rowsA rw_ (T.length + 1)) (rowsA_le rw_ _ 1) (by simp) (hmono _); rwa [List.append_nil] at h, ?_, ⟨by rw [hT1]; exact hlt, by rw [hT1]; exact hrest⟩, by dsimp only; rw [hT1]; omega⟩
        simp [upd_apply, i0, i2, i4, slA, hT1, IV.np, np_sh, npV, npE, IV.sh, accK_rowsA]
        exact npL_app (np_ints _ _ _) rfl
      · rw [if_neg hc] at hrest
        by_cases hw0 : w = 0
        · subst hw0
          refine TS.of [4] fun Q hQ => ?_
          simp only [go_sem, Nat.reduceEqDiff, Nat.reduceBEq, Int.reduceToNat, Int.reduceLT, Int.reduceLE, Int.reduceEq, Nat.reduceLeDiff, Nat.reduceLT, Nat.reduceMul, Nat.reduceAdd, String.reduceEq, i0, i2, i4, i7, i8, encE_eq, hm, hlt, hat, hlt5]
          refine cal_eq hsub ?_
          simp only [go_sem, Nat.reduceEqDiff, Nat.reduceBEq, Int.reduceToNat, Int.reduceLT, Int.reduceLE, Int.reduceEq, Nat.reduceLeDiff, Nat.reduceLT, Nat.reduceMul, Nat.reduceAdd, String.reduceEq, i0, i2, i4, i7, i8, encE_eq, happ, hlen, hbound]
          refine cal_eq (hwt _) ?_
          simp only [go_sem, Nat.reduceEqDiff, Nat.reduceBEq, Int.reduceToNat, Int.reduceLT, Int.reduceLE, Int.reduceEq, Nat.reduceLeDiff, Nat.reduceLT, Nat.reduceMul, Nat.reduceAdd, String.reduceEq, i0, i2, i4, i7, i8, hw]
          refine hQ .normal _ ?_; clear hQ Q
          refine ⟨B.length + (R.length + 1), (rowsA rw_ (T.length + 1)).length, (T ++ [t], s2), by rw [hT1]; have h := DropW.fm B sl s1 s2 R [] (rowsA rw_ T.length) (rowsA rw_ (T.length + 1)) (rowsA rw_ (T.length + 1)) (rowsA_le rw_ _ 1) (by simp) (hmono _); rwa [List.append_nil] at h, ?_, ⟨by rw [hT1]; exact hlt, by rw [hT1]; exact hrest⟩, by dsimp only; rw [hT1]; omega⟩
          simp [upd_apply, i0, i2, i4, slA, hT1, IV.np, np_sh, npV, npE, IV.sh, accK_rowsA]
          exact npL_app (np_ints _ _ _) rfl
        · have htw : t = w := Decidable.byContradiction fun h => hc ⟨hw0, h⟩
          subst htw
          refine TS.of [4] fun Q hQ => ?_
          simp only [go_sem, Nat.reduceEqDiff, Nat.reduceBEq, Int.reduceToNat, Int.reduceLT, Int.reduceLE, Int.reduceEq, Nat.reduceLeDiff, Nat.reduceLT, Nat.reduceMul, Nat.reduceAdd, String.reduceEq, i0, i2, i4, i7, i8, encE_eq, hm, hlt, hat, hlt5]
          refine cal_eq hsub ?_
          simp only [go_sem, Nat.reduceEqDiff, Nat.reduceBEq, Int.reduceToNat, Int.reduceLT, Int.reduceLE, Int.reduceEq, Nat.reduceLeDiff, Nat.reduceLT, Nat.reduceMul, Nat.reduceAdd, String.reduceEq, i0, i2, i4, i7, i8, encE_eq, happ, hlen, hbound]
          refine cal_eq (hwt _) ?_
          simp only [go_sem, Nat.reduceEqDiff, Nat.reduceBEq, Int.reduceToNat, Int.reduceLT, Int.reduceLE, Int.reduceEq, Nat.reduceLeDiff, Nat.reduceLT, Nat.reduceMul, Nat.reduceAdd, String.reduceEq, i0, i2, i4, i7, i8, hw, eq_false hw0]
          refine hQ .normal _ ?_; clear hQ Q
          refine ⟨B.length + (R.length + 1), (rowsA rw_ (T.length + 1)).length, (T ++ [t], s2), by rw [hT1]; have h := DropW.fm B sl s1 s2 R [] (rowsA rw_ T.length) (rowsA rw_ (T.length + 1)) (rowsA rw_ (T.length + 1)) (rowsA_le rw_ _ 1) (by simp) (hmono _); rwa [List.append_nil] at h, ?_, ⟨by rw [hT1]; exact hlt, by rw [hT1]; exact hrest⟩, by dsimp only; rw [hT1]; omega⟩
          simp [upd_apply, i0, i2, i4, slA, hT1, IV.np, np_sh, npV, npE, IV.sh, accK_rowsA]
          exact npL_app (np_ints _ _ _) rfl
    · refine TS.of [4] fun Q hQ => ?_
      simp only [go_sem, Nat.reduceEqDiff, Nat.reduceBEq, Int.reduceToNat, Int.reduceLT, Int.reduceLE, Int.reduceEq, Nat.reduceLeDiff, Nat.reduceLT, Nat.reduceMul, Nat.reduceAdd, String.reduceEq, i0, i2, i4, i7, i8, encE_eq, hm, hlt]
      refine hQ (.exit 0) _ ?_; clear hQ Q
      rw [List.drop_eq_nil_of_le (by omega), kindA] at hrest
      subst hrest
      exact ⟨rfl, by simp [upd_apply, i0, i2, i4], _, rfl⟩
  rintro e1 s2 ⟨rfl, ⟨i0, i2, i4⟩, n, hm2⟩
  have hend : ∀ st', DropW ⟨FM B sl st0 R, rw_⟩ (B.length + (R.length + 1)) rw_.length ⟨FM B sl st' R, rowsA rw_ n⟩ ⟨FM B sl st' R, rw_⟩ := fun st' => by
    have h := DropW.fm B sl st0 st' R [] rw_ rw_ (rowsA rw_ n) (Nat.le_refl _) (rowsA_take _ _) hs
    rwa [List.append_nil] at h
  have hkE : kindE e env st0 = (if e.k = 2 then (if e.s = qTrue ∨ e.s = qFalse then (2, F) else match look e.s env with
      | some t => (t, F)
      | none => (1, failF F 9 e.p))
    else if e.k = 4 then (2, F) else if e.k = 6 then ((if arith e.s then 1 else 2), F) else (1, F)) := by
    rw [← hF, show e = .mk e.k e.n e.s e.a e.p by cases e; rfl, kindE]; rfl
  by_cases k2 : e.k = 2
  · rw [if_pos k2] at hkE
    by_cases t1 : e.s = qTrue ∨ e.s = qFalse
    · rw [if_pos t1] at hkE
      rw [hkE]
      by_cases t2 : e.s = qTrue
      · have d1 : decide (e.s = ({ data := #[116, 114, 117, 101] } : Bytes)) = true := decide_eq_true t2
        refine TS.of [4] fun Q hQ => ?_
        simp only [go_sem, Nat.reduceEqDiff, Nat.reduceBEq, Int.reduceToNat, Int.reduceLT, Int.reduceLE, Int.reduceEq, Nat.reduceLeDiff, Nat.reduceLT, Nat.reduceMul, Nat.reduceAdd, String.reduceEq, i0, i2, i4, hm2, encE_eq, eq_true k2, d1]
        refine hQ .ret _ ?_; exact post_ret _ _ (ii 2) (by simp only [go_sem, Nat.reduceEqDiff, Nat.reduceBEq, Int.reduceToNat, Int.reduceLT, Int.reduceLE, Int.reduceEq, Nat.reduceLeDiff, Nat.reduceLT, Nat.reduceMul, Nat.reduceAdd, String.reduceEq]) rfl (hend F) ⟨rfl, rfl⟩
      · have d1 : decide (e.s = ({ data := #[116, 114, 117, 101] } : Bytes)) = false := decide_eq_false t2
        have d2 : decide (e.s = ({ data := #[102, 97, 108, 115, 101] } : Bytes)) = true := decide_eq_true (by rcases t1 with h | h; exact absurd h t2; exact h)
        refine TS.of [4] fun Q hQ => ?_
        simp only [go_sem, Nat.reduceEqDiff, Nat.reduceBEq, Int.reduceToNat, Int.reduceLT, Int.reduceLE, Int.reduceEq, Nat.reduceLeDiff, Nat.reduceLT, Nat.reduceMul, Nat.reduceAdd, String.reduceEq, i0, i2, i4, hm2, encE_eq, eq_true k2, d1, d2]
        refine hQ .ret _ ?_; exact post_ret _ _ (ii 2) (by simp only [go_sem, Nat.reduceEqDiff, Nat.reduceBEq, Int.reduceToNat, Int.reduceLT, Int.reduceLE, Int.reduceEq, Nat.reduceLeDiff, Nat.reduceLT, Nat.reduceMul, Nat.reduceAdd, String.reduceEq]) rfl (hend F) ⟨rfl, rfl⟩
    · rw [if_neg t1] at hkE
      have d1 : decide (e.s = ({ data := #[116, 114, 117, 101] } : Bytes)) = false := decide_eq_false fun h => t1 (.inl h)
      have d2 : decide (e.s = ({ data := #[102, 97, 108, 115, 101] } : Bytes)) = false := decide_eq_false fun h => t1 (.inr h)
      refine TS.seq (TS.seq (TS.of [4] fun Q hQ => ?_))
      simp only [go_sem, Nat.reduceEqDiff, Nat.reduceBEq, Int.reduceToNat, Int.reduceLT, Int.reduceLE, Int.reduceEq, Nat.reduceLeDiff, Nat.reduceLT, Nat.reduceMul, Nat.reduceAdd, String.reduceEq, i4, encE_eq]
      refine hQ .normal _ ?_; clear hQ Q
      refine TS.block (TS.seq (TS.of [4] fun Q hQ => ?_))
      simp only [go_sem, Nat.reduceEqDiff, Nat.reduceBEq, Int.reduceToNat, Int.reduceLT, Int.reduceLE, Int.reduceEq, Nat.reduceLeDiff, Nat.reduceLT, Nat.reduceMul, Nat.reduceAdd, String.reduceEq, eq_true k2]
      refine hQ .normal _ ?_; clear hQ Q
      refine TS.cond (t := true) (by simp only [go_sem, Nat.reduceEqDiff, Nat.reduceBEq, Int.reduceToNat, Int.reduceLT, Int.reduceLE, Int.reduceEq, Nat.reduceLeDiff, Nat.reduceLT, Nat.reduceMul, Nat.reduceAdd, String.reduceEq]) ?_
      refine TS.seq (TS.of [4] fun Q hQ => ?_)
      simp only [go_sem, Nat.reduceEqDiff, Nat.reduceBEq, Int.reduceToNat, Int.reduceLT, Int.reduceLE, Int.reduceEq, Nat.reduceLeDiff, Nat.reduceLT, Nat.reduceMul, Nat.reduceAdd, String.reduceEq, i4, encE_eq, d1, d2]
      refine hQ .normal _ ?_; clear hQ Q
      refine TS.seq (TS.seq (TS.of [4] fun Q hQ => ?_))
      simp only [go_sem, Nat.reduceEqDiff, Nat.reduceBEq, Int.reduceToNat, Int.reduceLT, Int.reduceLE, Int.reduceEq, Nat.reduceLeDiff, Nat.reduceLT, Nat.reduceMul, Nat.reduceAdd, String.reduceEq]
      refine hQ .normal _ ?_; clear hQ Q
      refine TS.block (TS.loop (α := Nat) (fun k => [(0, .ptr B.length 0), (2, slV env), (4, .ref (encE e)), (11, ii k)]) (fun _ => ⟨FM B sl F R, rowsA rw_ n⟩) (fun k => k ≤ env.length ∧ look e.s (env.drop k) = look e.s env) (fun k => env.length - k) 0 (by simp) ⟨by simp [Has, upd_apply, i0, i2, i4, encE_eq], hm2, by simp⟩ ?_)
      rintro k st hH hm ⟨hk, hlk⟩
      simp only [Has, List.mem_cons, List.not_mem_nil, or_false, forall_eq_or_imp, forall_eq] at hH; obtain ⟨j0, j2, j4, j11⟩ := hH
      by_cases hlt : k < env.length
      · obtain ⟨p, hp⟩ : ∃ p, env[k]? = some p := ⟨_, List.getElem?_eq_getElem hlt⟩
        have hdr : env.drop k = p :: env.drop (k + 1) := by rw [List.drop_eq_getElem_cons hlt]; congr 1; exact Option.some.inj ((List.getElem?_eq_getElem hlt).symm.trans hp)
        have hat := encV_at hp
        have hlt2 : k * 2 < (encV env).length := by rw [encV_len]; omega
        have hw := wrap_succ hlt (by omega)
        rw [hdr, look] at hlk
        by_cases hps : p.1 = e.s
        · rw [if_pos hps] at hlk
          rw [← hlk] at hkE
          dsimp only at hkE
          rw [hkE]
          refine TS.of [4] fun Q hQ => ?_
          simp only [go_sem, Nat.reduceEqDiff, Nat.reduceBEq, Int.reduceToNat, Int.reduceLT, Int.reduceLE, Int.reduceEq, Nat.reduceLeDiff, Nat.reduceLT, Nat.reduceMul, Nat.reduceAdd, String.reduceEq, j0, j2, j4, j11, hm, hlt]
          refine drn_of ⟨[], [], []⟩ [0, 0, 3, 7, 15, 0, 32, 127] (by kernel_rfl) ?_
          simp only [go_sem, Nat.reduceEqDiff, Nat.reduceBEq, Int.reduceToNat, Int.reduceLT, Int.reduceLE, Int.reduceEq, Nat.reduceLeDiff, Nat.reduceLT, Nat.reduceMul, Nat.reduceAdd, String.reduceEq, j0, j2, j4, j11, encE_eq, hlt, hat, hlt2, eq_true hps]
          refine hQ .ret _ ?_; exact post_ret _ _ (ii p.2) (by simp only [go_sem, Nat.reduceEqDiff, Nat.reduceBEq, Int.reduceToNat, Int.reduceLT, Int.reduceLE, Int.reduceEq, Nat.reduceLeDiff, Nat.reduceLT, Nat.reduceMul, Nat.reduceAdd, String.reduceEq]) rfl (hend F) ⟨rfl, rfl⟩
        · rw [if_neg hps] at hlk
          refine TS.of [4] fun Q hQ => ?_
          simp only [go_sem, Nat.reduceEqDiff, Nat.reduceBEq, Int.reduceToNat, Int.reduceLT, Int.reduceLE, Int.reduceEq, Nat.reduceLeDiff, Nat.reduceLT, Nat.reduceMul, Nat.reduceAdd, String.reduceEq, j0, j2, j4, j11, hm, hlt]
          refine drn_of ⟨[], [], []⟩ [0, 0, 3, 7, 15, 0, 32, 127] (by kernel_rfl) ?_
          simp only [go_sem, Nat.reduceEqDiff, Nat.reduceBEq, Int.reduceToNat, Int.reduceLT, Int.reduceLE, Int.reduceEq, Nat.reduceLeDiff, Nat.reduceLT, Nat.reduceMul, Nat.reduceAdd, String.reduceEq, j0, j2, j4, j11, encE_eq, hlt, hat, hlt2, eq_false hps, hw]
          refine hQ .normal _ ?_; clear hQ Q
          refine ⟨_, _, k + 1, DropW.refl _, ?_, ⟨hlt, hlk⟩, by omega⟩
          simp [upd_apply, j0, j2, j4, encE_eq, IV.np, npV, np_sh, npE, npEs, npL]
      · have hnone : look e.s env = none := by rw [← hlk, List.drop_eq_nil_of_le (by omega)]; rfl
        rw [hnone] at hkE
        dsimp only at hkE
        rw [hkE]
        refine TS.of [4] fun Q hQ => ?_
        simp only [go_sem, Nat.reduceEqDiff, Nat.reduceBEq, Int.reduceToNat, Int.reduceLT, Int.reduceLE, Int.reduceEq, Nat.reduceLeDiff, Nat.reduceLT, Nat.reduceMul, Nat.reduceAdd, String.reduceEq, j0, j2, j4, j11, hm, hlt]
        refine hQ (.exit 3) _ ?_; clear hQ Q
        have hf := (rfail_sim F 9 e.p).mem B R (rowsA rw_ n) sl (hmono _)
        refine TS.of [4] fun Q hQ => ?_
        simp only [go_sem, Nat.reduceEqDiff, Nat.reduceBEq, Int.reduceToNat, Int.reduceLT, Int.reduceLE, Int.reduceEq, Nat.reduceLeDiff, Nat.reduceLT, Nat.reduceMul, Nat.reduceAdd, String.reduceEq, j0, j4, encE_eq]
        refine cal_eq hf ?_
        simp only [go_sem, Nat.reduceEqDiff, Nat.reduceBEq, Int.reduceToNat, Int.reduceLT, Int.reduceLE, Int.reduceEq, Nat.reduceLeDiff, Nat.reduceLT, Nat.reduceMul, Nat.reduceAdd, String.reduceEq]
        refine hQ .ret _ ?_; exact post_ret _ _ (ii 1) (by simp only [go_sem, Nat.reduceEqDiff, Nat.reduceBEq, Int.reduceToNat, Int.reduceLT, Int.reduceLE, Int.reduceEq, Nat.reduceLeDiff, Nat.reduceLT, Nat.reduceMul, Nat.reduceAdd, String.reduceEq]) rfl (hend (failF F 9 e.p)) ⟨rfl, rfl⟩
  rw [if_neg k2] at hkE
  by_cases k4 : e.k = 4
  · rw [if_pos k4] at hkE
    rw [hkE]
    refine TS.of [4] fun Q hQ => ?_
    simp only [go_sem, Nat.reduceEqDiff, Nat.reduceBEq, Int.reduceToNat, Int.reduceLT, Int.reduceLE, Int.reduceEq, Nat.reduceLeDiff, Nat.reduceLT, Nat.reduceMul, Nat.reduceAdd, String.reduceEq, i0, i2, i4, hm2, encE_eq, eq_true k4, eq_false k2]
    refine hQ .ret _ ?_; exact post_ret _ _ (ii 2) (by simp only [go_sem, Nat.reduceEqDiff, Nat.reduceBEq, Int.reduceToNat, Int.reduceLT, Int.reduceLE, Int.reduceEq, Nat.reduceLeDiff, Nat.reduceLT, Nat.reduceMul, Nat.reduceAdd, String.reduceEq]) rfl (hend F) ⟨rfl, rfl⟩
  rw [if_neg k4] at hkE
  by_cases k6 : e.k = 6
  · rw [if_pos k6] at hkE
    by_cases a0 : e.s = qAdd
    · have d0 : decide (e.s = ({ data := #[43]} : Bytes)) = true := decide_eq_true a0
      have ha : arith e.s = true := by unfold arith; rw [a0]; rfl
      rw [ha, if_pos rfl] at hkE
      rw [hkE]
      refine TS.of [4] fun Q hQ => ?_
      simp only [go_sem, Nat.reduceEqDiff, Nat.reduceBEq, Int.reduceToNat, Int.reduceLT, Int.reduceLE, Int.reduceEq, Nat.reduceLeDiff, Nat.reduceLT, Nat.reduceMul, Nat.reduceAdd, String.reduceEq, i0, i2, i4, hm2, encE_eq, eq_true k6, eq_false k2, eq_false k4, d0]
      refine hQ .ret _ ?_; exact post_ret _ _ (ii 1) (by simp only [go_sem, Nat.reduceEqDiff, Nat.reduceBEq, Int.reduceToNat, Int.reduceLT, Int.reduceLE, Int.reduceEq, Nat.reduceLeDiff, Nat.reduceLT, Nat.reduceMul, Nat.reduceAdd, String.reduceEq]) rfl (hend F) ⟨rfl, rfl⟩
    have d0 : decide (e.s = ({ data := #[43]} : Bytes)) = false := decide_eq_false a0
    by_cases a1 : e.s = qSub
    · have d1 : decide (e.s = ({ data := #[45]} : Bytes)) = true := decide_eq_true a1
      have ha : arith e.s = true := by unfold arith; rw [a1]; rfl
      rw [ha, if_pos rfl] at hkE
      rw [hkE]
      refine TS.of [4] fun Q hQ => ?_
      simp only [go_sem, Nat.reduceEqDiff, Nat.reduceBEq, Int.reduceToNat, Int.reduceLT, Int.reduceLE, Int.reduceEq, Nat.reduceLeDiff, Nat.reduceLT, Nat.reduceMul, Nat.reduceAdd, String.reduceEq, i0, i2, i4, hm2, encE_eq, eq_true k6, eq_false k2, eq_false k4, d0, d1]
      refine hQ .ret _ ?_; exact post_ret _ _ (ii 1) (by simp only [go_sem, Nat.reduceEqDiff, Nat.reduceBEq, Int.reduceToNat, Int.reduceLT, Int.reduceLE, Int.reduceEq, Nat.reduceLeDiff, Nat.reduceLT, Nat.reduceMul, Nat.reduceAdd, String.reduceEq]) rfl (hend F) ⟨rfl, rfl⟩
    have d1 : decide (e.s = ({ data := #[45]} : Bytes)) = false := decide_eq_false a1
    by_cases a2 : e.s = qMul
    · have d2 : decide (e.s = ({ data := #[42]} : Bytes)) = true := decide_eq_true a2
      have ha : arith e.s = true := by unfold arith; rw [a2]; rfl
      rw [ha, if_pos rfl] at hkE
      rw [hkE]
      refine TS.of [4] fun Q hQ => ?_
      simp only [go_sem, Nat.reduceEqDiff, Nat.reduceBEq, Int.reduceToNat, Int.reduceLT, Int.reduceLE, Int.reduceEq, Nat.reduceLeDiff, Nat.reduceLT, Nat.reduceMul, Nat.reduceAdd, String.reduceEq, i0, i2, i4, hm2, encE_eq, eq_true k6, eq_false k2, eq_false k4, d0, d1, d2]
      refine hQ .ret _ ?_; exact post_ret _ _ (ii 1) (by simp only [go_sem, Nat.reduceEqDiff, Nat.reduceBEq, Int.reduceToNat, Int.reduceLT, Int.reduceLE, Int.reduceEq, Nat.reduceLeDiff, Nat.reduceLT, Nat.reduceMul, Nat.reduceAdd, String.reduceEq]) rfl (hend F) ⟨rfl, rfl⟩
    have d2 : decide (e.s = ({ data := #[42]} : Bytes)) = false := decide_eq_false a2
    by_cases a3 : e.s = qDiv
    · have d3 : decide (e.s = ({ data := #[47]} : Bytes)) = true := decide_eq_true a3
      have ha : arith e.s = true := by unfold arith; rw [a3]; rfl
      rw [ha, if_pos rfl] at hkE
      rw [hkE]
      refine TS.of [4] fun Q hQ => ?_
      simp only [go_sem, Nat.reduceEqDiff, Nat.reduceBEq, Int.reduceToNat, Int.reduceLT, Int.reduceLE, Int.reduceEq, Nat.reduceLeDiff, Nat.reduceLT, Nat.reduceMul, Nat.reduceAdd, String.reduceEq, i0, i2, i4, hm2, encE_eq, eq_true k6, eq_false k2, eq_false k4, d0, d1, d2, d3]
      refine hQ .ret _ ?_; exact post_ret _ _ (ii 1) (by simp only [go_sem, Nat.reduceEqDiff, Nat.reduceBEq, Int.reduceToNat, Int.reduceLT, Int.reduceLE, Int.reduceEq, Nat.reduceLeDiff, Nat.reduceLT, Nat.reduceMul, Nat.reduceAdd, String.reduceEq]) rfl (hend F) ⟨rfl, rfl⟩
    have d3 : decide (e.s = ({ data := #[47]} : Bytes)) = false := decide_eq_false a3
    by_cases a4 : e.s = qRem
    · have d4 : decide (e.s = ({ data := #[37]} : Bytes)) = true := decide_eq_true a4
      have ha : arith e.s = true := by unfold arith; rw [a4]; rfl
      rw [ha, if_pos rfl] at hkE
      rw [hkE]
      refine TS.of [4] fun Q hQ => ?_
      simp only [go_sem, Nat.reduceEqDiff, Nat.reduceBEq, Int.reduceToNat, Int.reduceLT, Int.reduceLE, Int.reduceEq, Nat.reduceLeDiff, Nat.reduceLT, Nat.reduceMul, Nat.reduceAdd, String.reduceEq, i0, i2, i4, hm2, encE_eq, eq_true k6, eq_false k2, eq_false k4, d0, d1, d2, d3, d4]
      refine hQ .ret _ ?_; exact post_ret _ _ (ii 1) (by simp only [go_sem, Nat.reduceEqDiff, Nat.reduceBEq, Int.reduceToNat, Int.reduceLT, Int.reduceLE, Int.reduceEq, Nat.reduceLeDiff, Nat.reduceLT, Nat.reduceMul, Nat.reduceAdd, String.reduceEq]) rfl (hend F) ⟨rfl, rfl⟩
    have d4 : decide (e.s = ({ data := #[37]} : Bytes)) = false := decide_eq_false a4
    have ha : arith e.s = false := by unfold arith; simp [a0, a1, a2, a3, a4]
    rw [ha, if_neg (by simp)] at hkE
    rw [hkE]
    refine TS.of [4] fun Q hQ => ?_
    simp only [go_sem, Nat.reduceEqDiff, Nat.reduceBEq, Int.reduceToNat, Int.reduceLT, Int.reduceLE, Int.reduceEq, Nat.reduceLeDiff, Nat.reduceLT, Nat.reduceMul, Nat.reduceAdd, String.reduceEq, i0, i2, i4, hm2, encE_eq, eq_true k6, eq_false k2, eq_false k4, d0, d1, d2, d3, d4]
    refine hQ .ret _ ?_; exact post_ret _ _ (ii 2) (by simp only [go_sem, Nat.reduceEqDiff, Nat.reduceBEq, Int.reduceToNat, Int.reduceLT, Int.reduceLE, Int.reduceEq, Nat.reduceLeDiff, Nat.reduceLT, Nat.reduceMul, Nat.reduceAdd, String.reduceEq]) rfl (hend F) ⟨rfl, rfl⟩
  · rw [if_neg k6] at hkE
    rw [hkE]
    refine TS.of [4] fun Q hQ => ?_
    simp only [go_sem, Nat.reduceEqDiff, Nat.reduceBEq, Int.reduceToNat, Int.reduceLT, Int.reduceLE, Int.reduceEq, Nat.reduceLeDiff, Nat.reduceLT, Nat.reduceMul, Nat.reduceAdd, String.reduceEq, i0, i2, i4, hm2, encE_eq, eq_false k4, eq_false k2, eq_false k6]
    refine hQ .ret _ ?_; exact post_ret _ _ (ii 1) (by simp only [go_sem, Nat.reduceEqDiff, Nat.reduceBEq, Int.reduceToNat, Int.reduceLT, Int.reduceLE, Int.reduceEq, Nat.reduceLeDiff, Nat.reduceLT, Nat.reduceMul, Nat.reduceAdd, String.reduceEq]) rfl (hend F) ⟨rfl, rfl⟩
theorem kind_all : ∀ N, N < 900000 → KC N := by
  intro N
  induction N using Nat.strongRecOn with
  | ind N ih => intro hN; exact kind_step hN fun M h => ih M h (by omega)
theorem kind_sim (e : Expr) (env : Env) (st : Int × Int) (h : szE e < 900000) (he : env.length < 900000) : SimF 77 [.agg (encE e), slV env] st (ii (kindE e env st).1) (kindE e env st).2 := kind_all _ h e env st (Nat.le_refl _) he
def needE (e : Expr) (want : Int) (env : Env) (st : Int × Int) : Int × Int := if (kindE e env st).1 = want then (kindE e env st).2 else failF (kindE e env st).2 10 e.p
set_option maxRecDepth 100000 in
set_option maxHeartbeats 4000000 in
theorem need_sim (e : Expr) (want : Int) (env : Env) (st : Int × Int) (h : szE e < 900000) (he : env.length < 900000) : SimF 50 [.agg (encE e), ii want, slV env] st (.tup []) (needE e want env st) := by
  intro B R rw_ sl hs
  have hk := (kind_sim e env st h he).mem B R rw_ sl hs
  rw [encE_eq] at hk
  have hv : needE e want env st = if (kindE e env st).1 = want then (kindE e env st).2 else failF (kindE e env st).2 10 e.p := rfl
  generalize kindE e env st = X at hk hv
  obtain ⟨t, s2⟩ := X
  dsimp only at hk hv
  refine Sim.ofS 18 [] Try.func50 rfl rfl rfl (by simp) fun wr => ?_
  simp only [go_sem, Nat.reduceEqDiff, Nat.reduceBEq, Int.reduceToNat, Int.reduceLT, Int.reduceLE, Int.reduceEq, Nat.reduceLeDiff, Nat.reduceLT, Nat.reduceMul, Nat.reduceAdd, String.reduceEq]
  by_cases ht : t = want
  · rw [if_pos ht] at hv
    rw [hv]
    refine TS.of [5] fun Q hQ => ?_
    simp only [go_sem, Nat.reduceEqDiff, Nat.reduceBEq, Int.reduceToNat, Int.reduceLT, Int.reduceLE, Int.reduceEq, Nat.reduceLeDiff, Nat.reduceLT, Nat.reduceMul, Nat.reduceAdd, String.reduceEq, encE_eq]
    refine cal_eq hk ?_
    simp only [go_sem, Nat.reduceEqDiff, Nat.reduceBEq, Int.reduceToNat, Int.reduceLT, Int.reduceLE, Int.reduceEq, Nat.reduceLeDiff, Nat.reduceLT, Nat.reduceMul, Nat.reduceAdd, String.reduceEq, eq_true ht]
    refine hQ .normal _ ?_
    exact post_end _ _ (.tup []) (by simp only [go_sem, Nat.reduceEqDiff, Nat.reduceBEq, Int.reduceToNat, Int.reduceLT, Int.reduceLE, Int.reduceEq, Nat.reduceLeDiff, Nat.reduceLT, Nat.reduceMul, Nat.reduceAdd, String.reduceEq]) rfl (DropW.fm0 B sl st s2 R rw_ hs) ⟨rfl, rfl⟩
  · rw [if_neg ht] at hv
    rw [hv]
    have hf := (rfail_sim s2 10 e.p).mem B R rw_ sl hs
    refine TS.of [5] fun Q hQ => ?_
    simp only [go_sem, Nat.reduceEqDiff, Nat.reduceBEq, Int.reduceToNat, Int.reduceLT, Int.reduceLE, Int.reduceEq, Nat.reduceLeDiff, Nat.reduceLT, Nat.reduceMul, Nat.reduceAdd, String.reduceEq, encE_eq]
    refine cal_eq hk ?_
    simp only [go_sem, Nat.reduceEqDiff, Nat.reduceBEq, Int.reduceToNat, Int.reduceLT, Int.reduceLE, Int.reduceEq, Nat.reduceLeDiff, Nat.reduceLT, Nat.reduceMul, Nat.reduceAdd, String.reduceEq, eq_false ht, encE_eq]
    refine cal_eq hf ?_
    simp only [go_sem, Nat.reduceEqDiff, Nat.reduceBEq, Int.reduceToNat, Int.reduceLT, Int.reduceLE, Int.reduceEq, Nat.reduceLeDiff, Nat.reduceLT, Nat.reduceMul, Nat.reduceAdd, String.reduceEq]
    refine hQ .normal _ ?_
    exact post_end _ _ (.tup []) (by simp only [go_sem, Nat.reduceEqDiff, Nat.reduceBEq, Int.reduceToNat, Int.reduceLT, Int.reduceLE, Int.reduceEq, Nat.reduceLeDiff, Nat.reduceLT, Nat.reduceMul, Nat.reduceAdd, String.reduceEq]) rfl (DropW.fm0 B sl st _ R rw_ hs) ⟨rfl, rfl⟩
end Go.Proofs.Ytphjldhdnmoolaa.A
/- The walks of some functions over the abstract machine. -/
namespace Go.Proofs.Ytphjldhdnmoolaa.A
open Go
/-! ref08: names that are declared -/
structure KS where
  dl : List Bytes
  ft : Int × Int
abbrev slD (r0 : Nat) (dl : List Bytes) : IV := .sl (accK r0 9 dl.length) dl.length (dl.map (IV.v <| .string ·))
def rowsK (b : List Nat) (n : Nat) (X : List Nat) : List Nat := if n = 0 then b else b ++ n :: X
theorem rowsK_app {b X : List Nat} {n : Nat} (h : n = 0 → X = []) (k : Nat) (hk : k ≠ 0) : app (rowsK b n X) 9 n k (accK b.length 9 n) = some (accK b.length 9 (n + k), rowsK b (n + k) X) := by
  unfold app rowsK accK
  rw [if_neg hk]
  by_cases h0 : n = 0
  · subst h0; rw [h rfl]; simp [hk]
  · simp [h0]
theorem slD_np {b X : List Nat} {dl : List Bytes} (no : Nat) : (slD b.length dl).np no (rowsK b dl.length X).length = true := by
  simp only [slD, IV.np, npS, Bool.and_true]
  unfold accK rowsK
  by_cases h : dl.length = 0
  · simp [h, SK.np]
  · simp [h, SK.np]
theorem DropW.fk (B : List IObj) (sl0 sl : IV) (st st' : Int × Int) (R X : List IObj) (R0 R1 R2 : List Nat) (h3 : R0.length ≤ R1.length) (h4 : R2.take R1.length = R1) (hs : ∀ no, sl.np no R1.length = true) : DropW ⟨FM B sl0 st R, R0⟩ (B.length + (R.length + 1)) R1.length ⟨FM B sl st' (R ++ X), R2⟩ ⟨FM B sl st' R, R1⟩ := by
  have h := DropW.fm B sl st st' R X R0 R1 R2 h3 h4 hs
  refine ⟨h.objs, h4.symm, by simp, h3, fun o x hx hl => ?_⟩
  simp only [FM] at hx
  by_cases h1 : o < B.length
  · left; rw [List.getElem?_append_left h1] at hx; simp only [FM]; rw [List.getElem?_append_left h1]; exact hx
  · rw [List.getElem?_append_right (by omega)] at hx
    generalize hk : o - B.length = k at hx
    match k, hx with
    | 0, hx => right; simp at hx; subst hx; simp [IObj.np, npL, IV.np, hs]
    | k + 1, hx =>
      left
      simp only [FM]
      rw [List.getElem?_append_right (by omega), hk]
      simp only [List.getElem?_cons_succ] at hx ⊢
      rw [List.getElem?_append_left (by omega)] at hx
      exact hx
theorem DropW.fk0 (B : List IObj) (sl0 sl : IV) (st st' : Int × Int) (R : List IObj) (R0 R1 R2 : List Nat) (h3 : R0.length ≤ R1.length) (h4 : R2.take R1.length = R1) (hs : ∀ no, sl.np no R1.length = true) : DropW ⟨FM B sl0 st R, R0⟩ (B.length + (R.length + 1)) R1.length ⟨FM B sl st' R, R2⟩ ⟨FM B sl st' R, R1⟩ := by
  have h := DropW.fk B sl0 sl st st' R [] R0 R1 R2 h3 h4 hs
  rwa [List.append_nil] at h
def SimK (f : FuncId) (args : List IV) (s : KS) (r : IV) (s' : KS) : Prop := ∀ (B R : List IObj) (b X : List Nat), (s.dl.length = 0 → X = []) → Sim f (.ptr B.length 0 :: args) ⟨FM B (slD b.length s.dl) s.ft R, rowsK b s.dl.length X⟩ (fun x m' => x = r ∧ m' = ⟨FM B (slD b.length s'.dl) s'.ft R, rowsK b s'.dl.length X⟩)
theorem SimK.mem {f : FuncId} {args : List IV} {s s' : KS} {r : IV} (h : SimK f args s r s') (B R : List IObj) (b X : List Nat) (hX : s.dl.length = 0 → X = []) : Sim f (.ptr B.length 0 :: args) ⟨FM B (slD b.length s.dl) s.ft R, rowsK b s.dl.length X⟩ (fun x m' => x = r ∧ m' = ⟨FM B (slD b.length s'.dl) s'.ft R, rowsK b s'.dl.length X⟩) := h B R b X hX
def memB (n : Bytes) (l : List Bytes) : Bool := l.any fun x => decide (x = n)
theorem memB_iff {n : Bytes} {l : List Bytes} : memB n l = true ↔ n ∈ l := by simp [memB]
def KS.declare (name : Bytes) (at_ : Int) (s : KS) : KS := if memB name s.dl then { s with ft := failF s.ft 9 at_ } else if 16 ≤ s.dl.length then { s with ft := failF s.ft 15 at_ } else { s with dl := s.dl ++ [name] }
theorem rowsK_le {b X : List Nat} {n k : Nat} (h : n = 0 → X = []) : (rowsK b n X).length ≤ (rowsK b (n + k) X).length := by
  unfold rowsK
  by_cases h0 : n = 0
  · rw [if_pos h0, h h0]; split <;> simp
  · rw [if_neg h0, if_neg (by omega)]; simp
set_option maxRecDepth 100000 in
set_option maxHeartbeats 4000000 in
theorem rdeclare_sim (name : Bytes) (at_ : Int) (s : KS) (hl : s.dl.length < 900000) : SimK 48 [ss name, ii at_] s (.tup []) (s.declare name at_) := by
  intro B R b X hX
  obtain ⟨dl, ft⟩ := s
  dsimp only at hl hX
  have hs := fun no => slD_np (b := b) (X := X) (dl := dl) no
  refine Sim.ofS 47 [] Try.func48 rfl rfl rfl (by simp) fun wr => ?_
  simp only [go_sem, Nat.reduceEqDiff, Nat.reduceBEq, Int.reduceToNat, Int.reduceLT, Int.reduceLE, Int.reduceEq, Nat.reduceLeDiff, Nat.reduceLT, Nat.reduceMul, Nat.reduceAdd, String.reduceEq]
  refine TS.seq (TS.seq (TS.of [] fun Q hQ => ?_))
  simp only [go_sem, Nat.reduceEqDiff, Nat.reduceBEq, Int.reduceToNat, Int.reduceLT, Int.reduceLE, Int.reduceEq, Nat.reduceLeDiff, Nat.reduceLT, Nat.reduceMul, Nat.reduceAdd, String.reduceEq]
  refine hQ .normal _ ?_; clear hQ Q
  refine TS.block (TS.loop (α := Nat) (fun k => [(0, .ptr B.length 0), (1, ss name), (2, ii at_), (6, ii k)]) (fun _ => ⟨FM B (slD b.length dl) ft R, rowsK b dl.length X⟩) (fun k => k ≤ dl.length ∧ (name ∈ dl.drop k ↔ name ∈ dl)) (fun k => dl.length - k) 0 (by simp) ⟨by simp [Has, upd_apply, argsT], rfl, by simp⟩ ?_)
  rintro k st hH hm ⟨hk, hin⟩
  simp only [Has, List.mem_cons, List.not_mem_nil, or_false, forall_eq_or_imp, forall_eq] at hH; obtain ⟨i0, i1, i2, i6⟩ := hH
  by_cases hlt : k < dl.length
  · obtain ⟨x, hx⟩ : ∃ x, dl.drop k = x :: dl.drop (k + 1) := ⟨_, List.drop_eq_getElem_cons hlt⟩
    have hat : (dl.map (IV.v <| .string ·)).drop k = ss x :: (dl.drop (k + 1)).map (IV.v <| .string ·) := by rw [← List.map_drop, hx]; rfl
    have hl1 : k < (dl.map (IV.v <| .string ·)).length := by rw [List.length_map]; exact hlt
    have hw := wrap_succ hlt (by omega)
    by_cases he : x = name
    · have hm1 : name ∈ dl := hin.1 (by rw [hx, he]; simp)
      have hv : KS.declare name at_ ⟨dl, ft⟩ = ⟨dl, failF ft 9 at_⟩ := by unfold KS.declare; rw [if_pos (memB_iff.2 hm1)]
      rw [hv]
      have hf := (rfail_sim ft 9 at_).mem B R (rowsK b dl.length X) (slD b.length dl) hs
      refine TS.of [] fun Q hQ => ?_
      simp only [go_sem, Nat.reduceEqDiff, Nat.reduceBEq, Int.reduceToNat, Int.reduceLT, Int.reduceLE, Int.reduceEq, Nat.reduceLeDiff, Nat.reduceLT, Nat.reduceMul, Nat.reduceAdd, String.reduceEq, i0, i1, i2, i6, hm, hlt, hat, hl1, eq_true he]
      refine cal_eq hf ?_
      simp only [go_sem, Nat.reduceEqDiff, Nat.reduceBEq, Int.reduceToNat, Int.reduceLT, Int.reduceLE, Int.reduceEq, Nat.reduceLeDiff, Nat.reduceLT, Nat.reduceMul, Nat.reduceAdd, String.reduceEq]
      refine hQ .ret _ ?_; exact post_ret _ _ (.tup []) (by simp only [go_sem, Nat.reduceEqDiff, Nat.reduceBEq, Int.reduceToNat, Int.reduceLT, Int.reduceLE, Int.reduceEq, Nat.reduceLeDiff, Nat.reduceLT, Nat.reduceMul, Nat.reduceAdd, String.reduceEq]) rfl (DropW.fm0 B _ _ _ R _ hs) ⟨rfl, rfl⟩
    · refine TS.of [] fun Q hQ => ?_
      simp only [go_sem, Nat.reduceEqDiff, Nat.reduceBEq, Int.reduceToNat, Int.reduceLT, Int.reduceLE, Int.reduceEq, Nat.reduceLeDiff, Nat.reduceLT, Nat.reduceMul, Nat.reduceAdd, String.reduceEq, i0, i1, i2, i6, hm, hlt, hat, hl1, eq_false he, hw]
      refine hQ .normal _ ?_; clear hQ Q
      refine ⟨_, _, k + 1, DropW.refl _, ?_, ⟨hlt, by rw [← hin, hx]; simp; intro h; exact absurd h.symm he⟩, by omega⟩
      simp [upd_apply, i0, i1, i2, IV.np]
  · have hnot : name ∉ dl := by rw [← hin, List.drop_eq_nil_of_le (by omega)]; simp
    refine TS.of [] fun Q hQ => ?_
    simp only [go_sem, Nat.reduceEqDiff, Nat.reduceBEq, Int.reduceToNat, Int.reduceLT, Int.reduceLE, Int.reduceEq, Nat.reduceLeDiff, Nat.reduceLT, Nat.reduceMul, Nat.reduceAdd, String.reduceEq, i0, i1, i2, i6, hm, hlt]
    refine hQ (.exit 0) _ ?_; clear hQ Q
    by_cases h16 : 16 ≤ dl.length
    · have h16' : (16 : Int) ≤ (dl.length : Int) := by omega
      have hv : KS.declare name at_ ⟨dl, ft⟩ = ⟨dl, failF ft 15 at_⟩ := by unfold KS.declare; rw [if_neg (fun h => hnot (memB_iff.1 h)), if_pos h16]
      rw [hv]
      have hf := (rfail_sim ft 15 at_).mem B R (rowsK b dl.length X) (slD b.length dl) hs
      refine TS.of [] fun Q hQ => ?_
      simp only [go_sem, Nat.reduceEqDiff, Nat.reduceBEq, Int.reduceToNat, Int.reduceLT, Int.reduceLE, Int.reduceEq, Nat.reduceLeDiff, Nat.reduceLT, Nat.reduceMul, Nat.reduceAdd, String.reduceEq, i0, i1, i2, h16']
      refine cal_eq hf ?_
      simp only [go_sem, Nat.reduceEqDiff, Nat.reduceBEq, Int.reduceToNat, Int.reduceLT, Int.reduceLE, Int.reduceEq, Nat.reduceLeDiff, Nat.reduceLT, Nat.reduceMul, Nat.reduceAdd, String.reduceEq]
      refine hQ .ret _ ?_; exact post_ret _ _ (.tup []) (by simp only [go_sem, Nat.reduceEqDiff, Nat.reduceBEq, Int.reduceToNat, Int.reduceLT, Int.reduceLE, Int.reduceEq, Nat.reduceLeDiff, Nat.reduceLT, Nat.reduceMul, Nat.reduceAdd, String.reduceEq]) rfl (DropW.fm0 B _ _ _ R _ hs) ⟨rfl, rfl⟩
    · have h16' : ¬ (16 : Int) ≤ (dl.length : Int) := by omega
      have hv : KS.declare name at_ ⟨dl, ft⟩ = ⟨dl ++ [name], ft⟩ := by unfold KS.declare; rw [if_neg (fun h => hnot (memB_iff.1 h)), if_neg h16]
      rw [hv]
      have happ := rowsK_app (b := b) (X := X) (n := dl.length) hX 1 (by decide)
      have hlen : (dl.map (IV.v <| .string ·)).length = dl.length := List.length_map ..
      have hbound : (dl.length + 1) * 16 ≤ 140737488355328 := by omega
      have hs2 := fun no => slD_np (b := b) (X := X) (dl := dl ++ [name]) no
      refine TS.of [] fun Q hQ => ?_
      simp only [go_sem, Nat.reduceEqDiff, Nat.reduceBEq, Int.reduceToNat, Int.reduceLT, Int.reduceLE, Int.reduceEq, Nat.reduceLeDiff, Nat.reduceLT, Nat.reduceMul, Nat.reduceAdd, String.reduceEq, i0, i1, i2, h16', happ, hlen, hbound]
      have e1 : (dl ++ [name]).length = dl.length + 1 := by simp
      have e2 : slD b.length (dl ++ [name]) = .sl (accK b.length 9 (dl.length + 1)) (dl.length + 1) (dl.map (IV.v <| .string ·) ++ [ss name]) := by simp [slD]
      have hD := DropW.fk0 B (slD b.length dl) (slD b.length (dl ++ [name])) ft ft R (rowsK b dl.length X) (rowsK b (dl ++ [name]).length X) (rowsK b (dl ++ [name]).length X) (by rw [e1]; exact rowsK_le hX) (by simp) hs2
      rw [e2, e1] at hD
      refine hQ .normal _ ?_
      exact post_end _ _ (.tup []) (by simp only [go_sem, Nat.reduceEqDiff, Nat.reduceBEq, Int.reduceToNat, Int.reduceLT, Int.reduceLE, Int.reduceEq, Nat.reduceLeDiff, Nat.reduceLT, Nat.reduceMul, Nat.reduceAdd, String.reduceEq]) rfl hD ⟨rfl, by dsimp only; rw [e2, e1]⟩
theorem declare_ne (name : Bytes) (at_ : Int) (s : KS) : (s.declare name at_).dl ≠ [] := by
  unfold KS.declare
  by_cases h : memB name s.dl = true
  · rw [if_pos h]; intro e; dsimp only at e; rw [e] at h; cases h
  · rw [if_neg h]
    by_cases h16 : 16 ≤ s.dl.length
    · rw [if_pos h16]; intro e; dsimp only at e; rw [e] at h16; simp at h16
    · rw [if_neg h16]; simp
theorem declare_len (name : Bytes) (at_ : Int) (s : KS) : s.dl.length ≤ (s.declare name at_).dl.length ∧ (s.declare name at_).dl.length ≤ s.dl.length + 1 := by
  unfold KS.declare; (repeat' split) <;> simp
end Go.Proofs.Ytphjldhdnmoolaa.A
/- The walks of some functions over the abstract machine. -/
namespace Go.Proofs.Ytphjldhdnmoolaa.A
open Go
/-! ref08: blocks -/
mutual
def stmtK : Stmt → Env → KS → Env × KS
  | .mk k s x n b e p, env, st =>
    if k = 1 then (env ++ [(s, (kindE (x.getD 0 E0) env st.ft).1)], KS.declare s p ⟨st.dl, (kindE (x.getD 0 E0) env st.ft).2⟩)
    else if k = 6 then (env, (blockK e env (blockK b env ⟨st.dl, needE (x.getD 0 E0) 2 env st.ft⟩).2).2)
    else if k = 7 ∨ k = 8 then (env, (blockK b (env ++ [(s, 1)]) (if 64 < n then ⟨(st.declare s p).dl, failF (st.declare s p).ft 11 p⟩ else st.declare s p)).2)
    else (env, ⟨st.dl, needE (x.getD 1 E0) 1 env (needE (x.getD 0 E0) 1 env st.ft)⟩)
def blockK : List Stmt → Env → KS → Env × KS
  | [], env, st => (env, st)
  | s :: l, env, st => blockK l (stmtK s env st).1 (stmtK s env st).2
end
def X1 (X : List Nat) (k : Nat) : List Nat := if k = 0 then X else X ++ [k]
theorem rowsK_len {b X : List Nat} {n : Nat} (h : n ≠ 0) : (rowsK b n X).length = b.length + 1 + X.length := by unfold rowsK; rw [if_neg h]; simp; omega
theorem app_copy {b X : List Nat} {n k : Nat} (hk : k ≠ 0 → n ≠ 0) : app (rowsK b n X) 95 0 k .full = some (accK (b.length + 1 + X.length) 95 k, rowsK b n (X1 X k)) := by
  unfold app accK X1
  by_cases h : k = 0
  · subst h; rfl
  · rw [if_neg h, if_neg h, if_neg h]
    have hn := hk h
    rw [rowsK_len hn, Nat.zero_add]
    congr 2
    unfold rowsK; rw [if_neg hn, if_neg hn]; simp
theorem app_grow {b X : List Nat} {n k : Nat} (hn : n ≠ 0) : app (rowsK b n (X1 X k)) 95 k 1 (accK (b.length + 1 + X.length) 95 k) = some (accK (b.length + 1 + X.length) 95 (k + 1), rowsK b n (X1 X (k + 1))) := by
  unfold app accK X1
  rw [if_neg (by decide), if_neg (by omega : ¬ k + 1 = 0), if_neg (by omega : ¬ k + 1 = 0)]
  by_cases h : k = 0
  · subst h
    rw [if_pos rfl, if_pos rfl]
    dsimp only
    rw [rowsK_len hn]
    congr 2
    unfold rowsK; rw [if_neg hn, if_neg hn]; simp
  · rw [if_neg h, if_neg h]
    dsimp only
    have e1 : rowsK b n (X ++ [k]) = (b ++ n :: X) ++ [k] := by unfold rowsK; rw [if_neg hn]; simp
    have e2 : rowsK b n (X ++ [k + 1]) = (b ++ n :: X) ++ [k + 1] := by unfold rowsK; rw [if_neg hn]; simp
    have e3 : (b ++ n :: X).length = b.length + 1 + X.length := by simp; omega
    rw [e1, e2, ← e3, if_pos (by simp)]
    simp
theorem rows_take {b X : List Nat} {n k : Nat} (hk : k ≠ 0 → n ≠ 0) : (rowsK b n (X1 X k)).take (rowsK b n X).length = rowsK b n X := by
  unfold X1
  by_cases h : k = 0
  · rw [if_pos h]; simp
  · rw [if_neg h]
    have hn := hk h
    have e1 : rowsK b n (X ++ [k]) = rowsK b n X ++ [k] := by unfold rowsK; rw [if_neg hn, if_neg hn]; simp
    rw [e1]; simp
theorem rows_le {b X : List Nat} {n n' k k' : Nat} (hn : n ≤ n') (hk : k ≤ k') (h0 : n = 0 → X1 X k = []) (h1 : k' ≠ 0 → n' ≠ 0) : (rowsK b n (X1 X k)).length ≤ (rowsK b n' (X1 X k')).length := by
  by_cases hz : n = 0
  · have := h0 hz
    rw [this]; unfold rowsK; rw [if_pos hz]; split <;> simp
  · rw [rowsK_len hz, rowsK_len (by omega)]
    unfold X1; (repeat' split) <;> simp <;> omega
abbrev slW (r0 : Nat) (E : Env) : IV := .sl (accK r0 95 E.length) E.length (encV E)
theorem declare_16 (name : Bytes) (at_ : Int) (s : KS) (h : s.dl.length ≤ 16) : (s.declare name at_).dl.length ≤ 16 := by
  unfold KS.declare; (repeat' split) <;> simp <;> omega
theorem argT_x {x : Stmt} (h : argT x) : (x.k = 1 ∨ x.k = 6 → ∃ y l, x.x = y :: l) ∧ (¬ (x.k = 1 ∨ x.k = 6 ∨ x.k = 7 ∨ x.k = 8) → ∃ y z l, x.x = y :: z :: l) ∧ argTs x.b ∧ argTs x.e := by cases x; exact h.2
theorem stmtK_eq (x : Stmt) (env : Env) (st : KS) : stmtK x env st = (if x.k = 1 then (env ++ [(x.s, (kindE (x.x.getD 0 E0) env st.ft).1)], KS.declare x.s x.p ⟨st.dl, (kindE (x.x.getD 0 E0) env st.ft).2⟩)
    else if x.k = 6 then (env, (blockK x.e env (blockK x.b env ⟨st.dl, needE (x.x.getD 0 E0) 2 env st.ft⟩).2).2)
    else if x.k = 7 ∨ x.k = 8 then (env, (blockK x.b (env ++ [(x.s, 1)]) (if 64 < x.n then ⟨(st.declare x.s x.p).dl, failF (st.declare x.s x.p).ft 11 x.p⟩ else st.declare x.s x.p)).2)
    else (env, ⟨st.dl, needE (x.x.getD 1 E0) 1 env (needE (x.x.getD 0 E0) 1 env st.ft)⟩)) := by cases x; rw [stmtK]; rfl
mutual
theorem stmtK_dl : ∀ (x : Stmt) (env : Env) (st : KS), st.dl.length ≤ (stmtK x env st).2.dl.length ∧ (st.dl.length ≤ 16 → (stmtK x env st).2.dl.length ≤ 16)
  | .mk k s x n b e p, env, st => by
    have hb := fun env st => blockK_dl b env st
    have he := fun env st => blockK_dl e env st
    rw [stmtK]
    by_cases k1 : k = 1
    · rw [if_pos k1]; exact ⟨(declare_len s p ⟨st.dl, (kindE (x.getD 0 E0) env st.ft).2⟩).1, fun h => declare_16 s p ⟨st.dl, (kindE (x.getD 0 E0) env st.ft).2⟩ h⟩
    rw [if_neg k1]
    by_cases k6 : k = 6
    · rw [if_pos k6]
      have h1 := hb env ⟨st.dl, needE (x.getD 0 E0) 2 env st.ft⟩
      have h2 := he env (blockK b env ⟨st.dl, needE (x.getD 0 E0) 2 env st.ft⟩).2
      exact ⟨Nat.le_trans h1.1 h2.1, fun h => h2.2 (h1.2 h)⟩
    rw [if_neg k6]
    by_cases k7 : k = 7 ∨ k = 8
    · rw [if_pos k7]
      have h0 := declare_len s p st
      have h3 := declare_16 s p st
      have h1 := hb (env ++ [(s, 1)]) (if 64 < n then ⟨(st.declare s p).dl, failF (st.declare s p).ft 11 p⟩ else st.declare s p)
      have h4 : (if 64 < n then (⟨(st.declare s p).dl, failF (st.declare s p).ft 11 p⟩ : KS) else st.declare s p).dl = (st.declare s p).dl := by split <;> rfl
      rw [h4] at h1
      exact ⟨Nat.le_trans h0.1 h1.1, fun h => h1.2 (h3 h)⟩
    · rw [if_neg k7]; exact ⟨Nat.le_refl _, fun h => h⟩
theorem blockK_dl : ∀ (l : List Stmt) (env : Env) (st : KS), st.dl.length ≤ (blockK l env st).2.dl.length ∧ (st.dl.length ≤ 16 → (blockK l env st).2.dl.length ≤ 16)
  | [], env, st => ⟨Nat.le_refl _, fun h => h⟩
  | s :: l, env, st => by
    have h1 := stmtK_dl s env st
    have h2 := blockK_dl l (stmtK s env st).1 (stmtK s env st).2
    rw [blockK]
    exact ⟨Nat.le_trans h1.1 h2.1, fun h => h2.2 (h1.2 h)⟩
end
end Go.Proofs.Ytphjldhdnmoolaa.A
/- The walks of some functions over the abstract machine. -/
namespace Go.Proofs.Ytphjldhdnmoolaa.A
open Go
/-! the checker finds what the document's answer finds: expressions -/
theorem fail_some {cs : CS} {p : Int × Int} (h : cs.ft = some p) (c a : Int) : cs.fail c a = cs := by unfold CS.fail; rw [h]; rfl
theorem fail_none {cs : CS} (h : cs.ft = none) (c a : Int) : cs.fail c a = { cs with ft := some (c, a) } := by unfold CS.fail; rw [h]; rfl
mutual
theorem cexpr_ft {p : Int × Int} : ∀ (e : Expr) (cs : CS), cs.ft = some p → (cexpr e cs).2.2.ft = some p
  | .mk k n s a q, cs, h => by
    have h1 : ∀ kind (cs : CS), cs.ft = some p → (cargs a kind cs).2.ft = some p := fun kind cs h => cargs_ft a kind cs h
    have h2 : ∀ (cs : CS), cs.ft = some p → (ceq a cs).2.ft = some p := fun cs h => ceq_ft a cs h
    rw [cexpr]
    split
    · exact h
    · split
      · split
        · exact h
        · split
          · exact h
          · dsimp only; rw [fail_some h]; exact h
      · split
        · exact h1 1 { cs with rd := true } h
        · split
          · exact h1 2 cs h
          · split
            · exact h1 1 cs h
            · split
              · exact h1 2 cs h
              · split
                · exact h1 1 cs h
                · split
                  · split
                    · exact h2 cs h
                    · exact h
                  · exact h1 1 cs h
theorem cargs_ft {p : Int × Int} : ∀ (l : List Expr) (kind : Int) (cs : CS), cs.ft = some p → (cargs l kind cs).2.ft = some p
  | [], kind, cs, h => h
  | e :: l, kind, cs, h => by
    have h1 := cexpr_ft e cs h
    rw [cargs]
    refine cargs_ft l kind _ ?_
    split
    · exact h1
    · rw [fail_some h1]; exact h1
theorem ceq_ft {p : Int × Int} : ∀ (l : List Expr) (cs : CS), cs.ft = some p → (ceq l cs).2.ft = some p
  | [], cs, h => h
  | e :: l, cs, h => by
    rw [ceq]
    exact cargs_ft l _ _ (cexpr_ft e cs h)
end
theorem cwant_ft {p : Int × Int} (e : Expr) (kind : Int) (cs : CS) (h : cs.ft = some p) : (cwant e kind cs).2.ft = some p := by
  have h1 := cexpr_ft e cs h
  unfold cwant
  dsimp only
  split
  · exact h1
  · rw [fail_some h1]; exact h1
theorem failF_ne {st : Int × Int} (h : st.1 ≠ 0) (c a : Int) : failF st c a = st := by unfold failF; rw [if_neg h]
theorem failF_0 (c a : Int) : failF (0, 0) c a = (c, a) := by unfold failF; rw [if_pos rfl]
mutual
theorem kindE_ft (E : Env) {st : Int × Int} (h : st.1 ≠ 0) : ∀ e : Expr, (kindE e E st).2 = st
  | .mk k n s a p => by
    have h1 := fun i T => kindA_ft E h k s a i T
    rw [kindE]
    split
    · split
      · exact h1 0 []
      · split
        · exact h1 0 []
        · dsimp only; rw [h1 0 [], failF_ne h]
    · split
      · exact h1 0 []
      · split
        · exact h1 0 []
        · exact h1 0 []
theorem kindA_ft (E : Env) {st : Int × Int} (h : st.1 ≠ 0) (k : Int) (s : Bytes) : ∀ (l : List Expr) (i : Nat) (T : List Int), kindA k s l E i T st = st
  | [], i, T => rfl
  | e :: l, i, T => by
    have h1 := kindE_ft E h e
    rw [kindA, h1]
    have h2 : (if wantsP k s i (T ++ [(kindE e E st).1]) ≠ 0 ∧ (kindE e E st).1 ≠ wantsP k s i (T ++ [(kindE e E st).1]) then failF st 10 e.p else st) = st := by
      split
      · exact failF_ne h _ _
      · rfl
    rw [h2]
    exact kindA_ft E h k s l _ _
end
theorem needE_ft (E : Env) {st : Int × Int} (h : st.1 ≠ 0) (e : Expr) (w : Int) : needE e w E st = st := by
  unfold needE; rw [kindE_ft E h]; split
  · rfl
  · exact failF_ne h _ _
theorem fitEs_mem : ∀ {l : List Expr}, fitEs l → ∀ e ∈ l, fitE e
  | e :: l, h, x, hx => by
    rcases List.mem_cons.1 hx with rfl | hx
    · exact h.1
    · exact fitEs_mem h.2 x hx
mutual
theorem cexpr_size : ∀ (e : Expr), fitE e → ∀ cs : CS, (cexpr e cs).2.1 = sizeE e
  | .mk k n s a p, h, cs => by
    have h1 := fun kind cs => cargs_size a h.1 kind cs
    have h2 := fun cs => ceq_size a h.1 cs
    obtain ⟨_, hk⟩ := h
    rw [cexpr, sizeE]
    have ha : (k = 1 ∨ k = 2) → sizeEs a = 0 := fun hk2 => by
      rcases hk with ⟨_, rfl⟩ | ⟨_, rfl⟩ | ⟨h3, _⟩ | ⟨h3, _⟩
      · rfl
      · rfl
      · omega
      · omega
    split
    · dsimp only; rw [ha (by omega)]; rfl
    · split
      · rename_i h0
        rw [ha (.inr h0)]
        split
        · rfl
        · split <;> rfl
      · split
        · dsimp only; rw [h1]
        · split
          · dsimp only; rw [h1]
          · split
            · dsimp only; rw [h1]
            · split
              · dsimp only; rw [h1]
              · split
                · dsimp only; rw [h1]
                · split
                  · have hl : a.length = 2 := by
                      rcases hk with ⟨h3, _⟩ | ⟨h3, _⟩ | ⟨h3, _⟩ | ⟨_, ⟨x, y, rfl⟩, _⟩
                      · contradiction
                      · contradiction
                      · omega
                      · rfl
                    rw [if_pos hl]; dsimp only; rw [h2]
                  · dsimp only; rw [h1]
theorem cargs_size : ∀ (l : List Expr), fitEs l → ∀ (kind : Int) (cs : CS), (cargs l kind cs).1 = sizeEs l
  | [], h, kind, cs => rfl
  | e :: l, h, kind, cs => by rw [cargs, sizeEs]; dsimp only; rw [cexpr_size e h.1, cargs_size l h.2]
theorem ceq_size : ∀ (l : List Expr), fitEs l → ∀ (cs : CS), (ceq l cs).1 = sizeEs l
  | [], h, cs => rfl
  | e :: l, h, cs => by rw [ceq, sizeEs]; dsimp only; rw [cexpr_size e h.1, cargs_size l h.2]
end
end Go.Proofs.Ytphjldhdnmoolaa.A
/- The walks of some functions over the abstract machine. -/
namespace Go.Proofs.Ytphjldhdnmoolaa.A
open Go
/-! ref08: the walk through a block -/
structure KG (l : List Stmt) (env : Env) (s : KS) : Prop where
  arg : argTs l
  len : env.length + szt l < 900000
  dl : s.dl.length ≤ 16
  ne : env.length ≠ 0 → s.dl.length ≠ 0
def KBC (N : Nat) : Prop := ∀ (l : List Stmt) (env : Env) (s : KS), szt l ≤ N → KG l env s → SimK 52 [slT l, slV env] s (slV (blockK l env s).1) (blockK l env s).2
set_option maxRecDepth 100000 in
set_option maxHeartbeats 4000000 in
theorem kblock_step {N : Nat} (hNb : N < 900000) (ih : ∀ M, M < N → KBC M) : KBC N := by
  intro l env s0 hN hg B R b X hX
  obtain ⟨harg, hlen, h16, hne⟩ := hg
  have hll := szt_len l
  have hcp := app_copy (b := b) (X := X) (n := s0.dl.length) (k := env.length) hne
  have hcl : (encV env).length = env.length * 2 := encV_len env
  have hcb : env.length * 24 ≤ 140737488355328 := by omega
  refine Sim.ofS 109 [.tmp 6] Try.func52 rfl rfl rfl (by simp) fun wr => ?_
  simp only [go_sem, Nat.reduceEqDiff, Nat.reduceBEq, Int.reduceToNat, Int.reduceLT, Int.reduceLE, Int.reduceEq, Nat.reduceLeDiff, Nat.reduceLT, Nat.reduceMul, Nat.reduceAdd, String.reduceEq]
  refine TS.seq (TS.of [] fun Q hQ => ?_)
  simp only [go_sem, Nat.reduceEqDiff, Nat.reduceBEq, Int.reduceToNat, Int.reduceLT, Int.reduceLE, Int.reduceEq, Nat.reduceLeDiff, Nat.reduceLT, Nat.reduceMul, Nat.reduceAdd, String.reduceEq]
  refine hQ .normal _ ?_; clear hQ Q
  refine TS.seq (TS.of [] fun Q hQ => ?_)
  simp only [go_sem, Nat.reduceEqDiff, Nat.reduceBEq, Int.reduceToNat, Int.reduceLT, Int.reduceLE, Int.reduceEq, Nat.reduceLeDiff, Nat.reduceLT, Nat.reduceMul, Nat.reduceAdd, String.reduceEq, hcp, hcl, hcb, encV_one, encV_sh, Nat.zero_add, Nat.zero_mul]
  refine hQ .normal _ ?_; clear hQ Q
  refine TS.seq (TS.seq (TS.of [] fun Q hQ => ?_))
  simp only [go_sem, Nat.reduceEqDiff, Nat.reduceBEq, Int.reduceToNat, Int.reduceLT, Int.reduceLE, Int.reduceEq, Nat.reduceLeDiff, Nat.reduceLT, Nat.reduceMul, Nat.reduceAdd, String.reduceEq]
  refine hQ .normal _ ?_; clear hQ Q
  generalize hF : blockK l env s0 = F
  refine TS.block (TS.loop (α := Nat × Env × KS) (fun x => [(0, .ptr B.length 0), (1, slT l), (2, slW (b.length + 1 + X.length) x.2.1), (7, ii x.1)]) (fun x => ⟨FM B (slD b.length x.2.2.dl) x.2.2.ft R, rowsK b x.2.2.dl.length (X1 X x.2.1.length)⟩) (fun x => x.1 ≤ l.length ∧ blockK (l.drop x.1) x.2.1 x.2.2 = F ∧ x.2.1.length + szt (l.drop x.1) < 900000 ∧ x.2.2.dl.length ≤ 16 ∧ (x.2.1.length ≠ 0 → x.2.2.dl.length ≠ 0) ∧ (x.2.2.dl.length = 0 → X = []) ∧ s0.dl.length ≤ x.2.2.dl.length) (fun x => l.length - x.1) (0, env, s0) (by simp) ⟨by simp [Has, upd_apply, argsT], rfl, ⟨Nat.zero_le _, hF, hlen, h16, hne, hX, Nat.le_refl _⟩⟩ ?_)
  rintro ⟨k, E, S⟩ st hH hm ⟨hk, hrest, hlen1, hS16, hEne, hSX, hS0⟩
  dsimp only at hH hm hk hrest hlen1 hS16 hEne hSX hS0
  simp only [Has, List.mem_cons, List.not_mem_nil, or_false, forall_eq_or_imp, forall_eq] at hH; obtain ⟨i0, i1, i2, i7⟩ := hH
  have hX1 : S.dl.length = 0 → X1 X E.length = [] := fun h => by
    have : E.length = 0 := Decidable.byContradiction fun h2 => hEne h2 h
    rw [this, hSX h]; rfl
  by_cases hlt : k < l.length
  · obtain ⟨x, hx⟩ : ∃ x, l[k]? = some x := ⟨_, List.getElem?_eq_getElem hlt⟩
    have hdr : l.drop k = x :: l.drop (k + 1) := by rw [List.drop_eq_getElem_cons hlt]; congr 1; exact Option.some.inj ((List.getElem?_eq_getElem hlt).symm.trans hx)
    have hat := encTs_at hx
    have hlt7 : k * 7 < (encTs l).length := by rw [encTs_length]; omega
    have hw := wrap_succ hlt (by omega)
    have hszx := szT_at hx
    have hxsz := szT_eq x
    obtain ⟨hs1, hs2, hab, hae⟩ := argT_x (argTs_at harg hx)
    rw [hdr, blockK, stmtK_eq] at hrest
    rw [hdr, szt] at hlen1
    have hEl : E.length < 900000 := by omega
    have hes : ∀ (y : Expr) (ly : List Expr), encEs (y :: ly) = [ii y.k, ii y.n, ss y.s, slE y.a, ii y.p] ++ encEs ly := fun y ly => by rw [encEs, encE_eq]
    have hnp := fun no => slD_np (b := b) (X := X1 X E.length) (dl := S.dl) no
    have hDend : ∀ (E' : Env) (S' : KS) (rows' : List Nat), S.dl.length ≤ S'.dl.length → E.length ≤ E'.length → (E'.length ≠ 0 → S'.dl.length ≠ 0) → rows'.take (rowsK b S'.dl.length (X1 X E'.length)).length = rowsK b S'.dl.length (X1 X E'.length) →
        DropW ⟨FM B (slD b.length S.dl) S.ft R, rowsK b S.dl.length (X1 X E.length)⟩ (B.length + (R.length + 1)) (rowsK b S'.dl.length (X1 X E'.length)).length ⟨FM B (slD b.length S'.dl) S'.ft (R ++ [.cells (encT x)]), rows'⟩ ⟨FM B (slD b.length S'.dl) S'.ft R, rowsK b S'.dl.length (X1 X E'.length)⟩ := fun E' S' rows' h1 h2 h3 h4 =>
      DropW.fk B _ _ S.ft S'.ft R [.cells (encT x)] _ _ _ (rows_le h1 h2 hX1 h3) h4 (fun no => slD_np no)
    have hslot : ∀ (E' : Env) (S' : KS), (E'.length ≠ 0 → S'.dl.length ≠ 0) → ∀ no, (slW (b.length + 1 + X.length) E').np no (rowsK b S'.dl.length (X1 X E'.length)).length = true := fun E' S' h no => by
      simp only [slW, IV.np, npV, Bool.and_true]
      unfold accK
      by_cases h0 : E'.length = 0
      · rw [if_pos h0]; rfl
      · rw [if_neg h0, rowsK_len (h h0)]; unfold X1; rw [if_neg h0]; simp [SK.np]
    by_cases k1 : x.k = 1
    · rw [if_pos k1] at hrest
      obtain ⟨y, ly, hxx⟩ := hs1 (.inl k1)
      rw [hxx, List.getD_cons_zero] at hrest
      have hk1 := (kind_sim y E S.ft (by rw [hxx, szs] at hxsz; omega) hEl).mem B (R ++ [.cells (encT x)]) (rowsK b S.dl.length (X1 X E.length)) (slD b.length S.dl) hnp
      generalize kindE y E S.ft = Y at hk1 hrest
      obtain ⟨t, ft1⟩ := Y
      dsimp only at hk1 hrest
      have hde := (rdeclare_sim x.s x.p ⟨S.dl, ft1⟩ (by dsimp only; omega)).mem B (R ++ [.cells (encT x)]) b (X1 X E.length) hX1
      have hdne := declare_ne x.s x.p ⟨S.dl, ft1⟩
      have hdl := declare_len x.s x.p ⟨S.dl, ft1⟩
      have hd16 := declare_16 x.s x.p ⟨S.dl, ft1⟩ hS16
      generalize KS.declare x.s x.p ⟨S.dl, ft1⟩ = S2 at hde hrest hdne hdl hd16
      have hS2 : S2.dl.length ≠ 0 := fun h => hdne (List.length_eq_zero_iff.1 h)
      have hgr := app_grow (b := b) (X := X) (n := S2.dl.length) (k := E.length) hS2
      have hob : encT x = [ii x.k, ss x.s, .sl .sh (ly.length + 1) (ii y.k :: ii y.n :: ss y.s :: slE y.a :: ii y.p :: encEs ly), ii x.n, slT x.b, slT x.e, ii x.p] := by rw [encT_eq, hxx]; simp only [slE, hes, List.length_cons, List.cons_append, List.nil_append]
      rw [hob, encE_eq] at hk1
      rw [hob] at hde
      have n0 : (0 : Int) < ((ly.length + 1 : Nat) : Int) := by omega
      have hEl2 : (encV E).length = E.length * 2 := encV_len E
      have hEb : (E.length + 1) * 24 ≤ 140737488355328 := by omega
      refine TS.of [] fun Q hQ => ?_
      simp only [go_sem, Nat.reduceEqDiff, Nat.reduceBEq, Int.reduceToNat, Int.reduceLT, Int.reduceLE, Int.reduceEq, Nat.reduceLeDiff, Nat.reduceLT, Nat.reduceMul, Nat.reduceAdd, String.reduceEq, i0, i1, i2, i7, hm, hlt, hat, hlt7, eq_true k1, hxx, hes, n0, Nat.zero_lt_succ]
      refine cal_eq hk1 ?_
      simp only [go_sem, Nat.reduceEqDiff, Nat.reduceBEq, Int.reduceToNat, Int.reduceLT, Int.reduceLE, Int.reduceEq, Nat.reduceLeDiff, Nat.reduceLT, Nat.reduceMul, Nat.reduceAdd, String.reduceEq, i0, i1, i2, i7]
      refine cal_eq hde ?_
      simp only [go_sem, Nat.reduceEqDiff, Nat.reduceBEq, Int.reduceToNat, Int.reduceLT, Int.reduceLE, Int.reduceEq, Nat.reduceLeDiff, Nat.reduceLT, Nat.reduceMul, Nat.reduceAdd, String.reduceEq, i0, i1, i2, i7, hgr, hEl2, hEb, hw, Nat.reducePow]
      refine hQ .normal _ ?_; clear hQ Q
      have hE1 : (E ++ [(x.s, t)]).length = E.length + 1 := by simp
      have hw2 : slW (b.length + 1 + X.length) (E ++ [(x.s, t)]) = .sl (accK (b.length + 1 + X.length) 95 (E.length + 1)) (E.length + 1) (encV E ++ [ss x.s, ii t]) := by simp [slW, encV_app, encV]
      have h := hDend (E ++ [(x.s, t)]) S2 (rowsK b S2.dl.length (X1 X (E.length + 1))) hdl.1 (by simp) (fun _ => hS2) (by rw [hE1]; simp)
      rw [hob, hE1] at h
      have hn2 := hslot (E ++ [(x.s, t)]) S2 (fun _ => hS2) (B.length + (R.length + 1))
      rw [hw2, hE1] at hn2
      refine ⟨B.length + (R.length + 1), (rowsK b S2.dl.length (X1 X (E.length + 1))).length, (k + 1, E ++ [(x.s, t)], S2), by dsimp only; rw [hE1]; exact h, ?_, ⟨hlt, hrest, by dsimp only; rw [hE1]; omega, hd16, fun _ => hS2, fun h => absurd h hS2, Nat.le_trans hS0 hdl.1⟩, by dsimp only; omega⟩
      dsimp only
      rw [hw2]
      simp only [List.mem_cons, List.not_mem_nil, or_false, forall_eq_or_imp, forall_eq, hn2, and_true]
      simp [upd_apply, i0, i1, IV.np, np_sh, npTs]
    rw [if_neg k1] at hrest
    by_cases k6 : x.k = 6
    · rw [if_pos k6] at hrest
      obtain ⟨y, ly, hxx⟩ := hs1 (.inr k6)
      rw [hxx, List.getD_cons_zero] at hrest
      have hob : encT x = [ii x.k, ss x.s, .sl .sh (ly.length + 1) (ii y.k :: ii y.n :: ss y.s :: slE y.a :: ii y.p :: encEs ly), ii x.n, slT x.b, slT x.e, ii x.p] := by rw [encT_eq, hxx]; simp only [slE, hes, List.length_cons, List.cons_append, List.nil_append]
      have n0 : (0 : Int) < ((ly.length + 1 : Nat) : Int) := by omega
      have hn1 := (need_sim y 2 E S.ft (by rw [hxx, szs] at hxsz; omega) hEl).mem B (R ++ [.cells (encT x)]) (rowsK b S.dl.length (X1 X E.length)) (slD b.length S.dl) hnp
      generalize needE y 2 E S.ft = ft1 at hn1 hrest
      have hb1 := (ih (szt x.b) (by omega) x.b E ⟨S.dl, ft1⟩ (Nat.le_refl _) ⟨hab, by omega, hS16, hEne⟩).mem B (R ++ [.cells (encT x)]) b (X1 X E.length) hX1
      have hd2 := blockK_dl x.b E ⟨S.dl, ft1⟩
      generalize blockK x.b E ⟨S.dl, ft1⟩ = P2 at hb1 hrest hd2
      obtain ⟨E2, S2⟩ := P2
      dsimp only at hb1 hrest hd2
      have hb2 := (ih (szt x.e) (by omega) x.e E S2 (Nat.le_refl _) ⟨hae, by omega, hd2.2 hS16, fun h => by have := hEne h; omega⟩).mem B (R ++ [.cells (encT x)]) b (X1 X E.length) (fun h => hX1 (by omega))
      have hd3 := blockK_dl x.e E S2
      generalize blockK x.e E S2 = P3 at hb2 hrest hd3
      obtain ⟨E3, S3⟩ := P3
      dsimp only at hb2 hrest hd3
      have hle : S.dl.length ≤ S3.dl.length := Nat.le_trans hd2.1 hd3.1
      have h := hDend E S3 (rowsK b S3.dl.length (X1 X E.length)) hle (Nat.le_refl _) (fun h => by have := hEne h; omega) (by simp)
      rw [hob] at hn1 hb1 hb2 h
      rw [encE_eq] at hn1
      refine TS.of [] fun Q hQ => ?_
      simp only [go_sem, Nat.reduceEqDiff, Nat.reduceBEq, Int.reduceToNat, Int.reduceLT, Int.reduceLE, Int.reduceEq, Nat.reduceLeDiff, Nat.reduceLT, Nat.reduceMul, Nat.reduceAdd, String.reduceEq, i0, i1, i2, i7, hm, hlt, hat, hlt7, eq_false k1, eq_true k6, hxx, hes, n0, Nat.zero_lt_succ]
      refine cal_eq hn1 ?_
      simp only [go_sem, Nat.reduceEqDiff, Nat.reduceBEq, Int.reduceToNat, Int.reduceLT, Int.reduceLE, Int.reduceEq, Nat.reduceLeDiff, Nat.reduceLT, Nat.reduceMul, Nat.reduceAdd, String.reduceEq, i0, i1, i2, i7]
      refine cal_eq hb1 ?_
      simp only [go_sem, Nat.reduceEqDiff, Nat.reduceBEq, Int.reduceToNat, Int.reduceLT, Int.reduceLE, Int.reduceEq, Nat.reduceLeDiff, Nat.reduceLT, Nat.reduceMul, Nat.reduceAdd, String.reduceEq, i0, i1, i2, i7]
      refine cal_eq hb2 ?_
      simp only [go_sem, Nat.reduceEqDiff, Nat.reduceBEq, Int.reduceToNat, Int.reduceLT, Int.reduceLE, Int.reduceEq, Nat.reduceLeDiff, Nat.reduceLT, Nat.reduceMul, Nat.reduceAdd, String.reduceEq, i0, i1, i2, i7, hw]
      refine hQ .normal _ ?_; clear hQ Q
      have hn3 := hslot E S3 (fun h => by have := hEne h; omega) (B.length + (R.length + 1))
      refine ⟨B.length + (R.length + 1), (rowsK b S3.dl.length (X1 X E.length)).length, (k + 1, E, S3), h, ?_, ⟨hlt, hrest, by dsimp only; omega, hd3.2 (hd2.2 hS16), (fun h => by (try dsimp only at h ⊢); have := hEne h; omega), fun h => hSX (Nat.le_zero.1 (h ▸ hle)), Nat.le_trans hS0 hle⟩, by dsimp only; omega⟩
      dsimp only
      simp only [List.mem_cons, List.not_mem_nil, or_false, forall_eq_or_imp, forall_eq, hn3, and_true]
      simp [upd_apply, i0, i1, i2, IV.np, np_sh, npTs]
    rw [if_neg k6] at hrest
    by_cases k78 : x.k = 7 ∨ x.k = 8
    · rw [if_pos k78] at hrest
      have hde := (rdeclare_sim x.s x.p S (by omega)).mem B (R ++ [.cells (encT x)]) b (X1 X E.length) hX1
      have hdne := declare_ne x.s x.p S
      have hdl := declare_len x.s x.p S
      have hd16 := declare_16 x.s x.p S hS16
      generalize KS.declare x.s x.p S = S1 at hde hrest hdne hdl hd16
      have hS1 : S1.dl.length ≠ 0 := fun h => hdne (List.length_eq_zero_iff.1 h)
      have hf := (rfail_sim S1.ft 11 x.p).mem B (R ++ [.cells (encT x)]) (rowsK b S1.dl.length (X1 X E.length)) (slD b.length S1.dl) (fun no => slD_np no)
      have hcp2 := app_copy (b := b) (X := X1 X E.length) (n := S1.dl.length) (k := E.length) (fun _ => hS1)
      have hgr2 := app_grow (b := b) (X := X1 X E.length) (n := S1.dl.length) (k := E.length) hS1
      have hvv : slV (E ++ [(x.s, 1)]) = .sl .sh (E.length + 1) (encV E ++ [ss x.s, ii 1]) := by simp [slV, encV_app, encV]
      have hEl2 : (encV E).length = E.length * 2 := encV_len E
      have hEb : (E.length + 1) * 24 ≤ 140737488355328 := by omega
      have hEb0 : E.length * 24 ≤ 140737488355328 := by omega
      have hblk : ∀ S2 : KS, S2.dl = S1.dl → ∃ S3 : KS, (blockK x.b (E ++ [(x.s, 1)]) S2).2 = S3 ∧ S2.dl.length ≤ S3.dl.length ∧ S3.dl.length ≤ 16 ∧ ∃ r0, Sim 52 [.ptr B.length 0, slT x.b, .sl .sh (E.length + 1) (encV E ++ [ss x.s, ii 1])] ⟨FM B (slD b.length S1.dl) S2.ft (R ++ [.cells (encT x)]), rowsK b S1.dl.length (X1 (X1 X E.length) (E.length + 1))⟩ (fun z m' => z = r0 ∧ m' = ⟨FM B (slD b.length S3.dl) S3.ft (R ++ [.cells (encT x)]), rowsK b S3.dl.length (X1 (X1 X E.length) (E.length + 1))⟩) := fun S2 h2 => by
        have hb1 := (ih (szt x.b) (by omega) x.b (E ++ [(x.s, 1)]) S2 (Nat.le_refl _) ⟨hab, by simp; omega, by rw [h2]; exact hd16, fun _ => by rw [h2]; exact hS1⟩).mem B (R ++ [.cells (encT x)]) b (X1 (X1 X E.length) (E.length + 1)) (fun h => absurd (h2 ▸ h) hS1)
        have hd2 := blockK_dl x.b (E ++ [(x.s, 1)]) S2
        rw [hvv, h2] at hb1
        exact ⟨_, rfl, hd2.1, hd2.2 (by rw [h2]; exact hd16), _, hb1⟩
      rw [encT_eq] at hde hf
      by_cases hN : 64 < x.n
      · by_cases k7 : x.k = 7
        · rw [if_pos hN] at hrest
          obtain ⟨S3, hS3, hd3, hd4, r0, hb3⟩ := hblk ⟨S1.dl, failF S1.ft 11 x.p⟩ rfl
          rw [hS3] at hrest
          dsimp only at hd3 hb3 hrest
          have hle : S.dl.length ≤ S3.dl.length := Nat.le_trans hdl.1 hd3
          have h := hDend E S3 (rowsK b S3.dl.length (X1 (X1 X E.length) (E.length + 1))) hle (Nat.le_refl _) (fun _ => by omega) (rows_take (fun _ => by omega))
          rw [encT_eq] at hb3 h
          refine TS.of [] fun Q hQ => ?_
          simp only [go_sem, Nat.reduceEqDiff, Nat.reduceBEq, Int.reduceToNat, Int.reduceLT, Int.reduceLE, Int.reduceEq, Nat.reduceLeDiff, Nat.reduceLT, Nat.reduceMul, Nat.reduceAdd, String.reduceEq, i0, i1, i2, i7, hm, hlt, hat, hlt7, eq_false k1, eq_false k6, eq_true k7]
          refine cal_eq hde ?_
          simp only [go_sem, Nat.reduceEqDiff, Nat.reduceBEq, Int.reduceToNat, Int.reduceLT, Int.reduceLE, Int.reduceEq, Nat.reduceLeDiff, Nat.reduceLT, Nat.reduceMul, Nat.reduceAdd, String.reduceEq, i0, i1, i2, i7, hN]
          refine cal_eq hf ?_
          simp only [go_sem, Nat.reduceEqDiff, Nat.reduceBEq, Int.reduceToNat, Int.reduceLT, Int.reduceLE, Int.reduceEq, Nat.reduceLeDiff, Nat.reduceLT, Nat.reduceMul, Nat.reduceAdd, String.reduceEq, i0, i1, i2, i7]
          refine drn_of ⟨[], [98, 103], [B.length + (R.length + 1)]⟩ [0, 0, 2, 0, 0, 24, 0, 64, 192, 448, 1016, 2047] (by kernel_rfl) ?_
          simp only [go_sem, Nat.reduceEqDiff, Nat.reduceBEq, Int.reduceToNat, Int.reduceLT, Int.reduceLE, Int.reduceEq, Nat.reduceLeDiff, Nat.reduceLT, Nat.reduceMul, Nat.reduceAdd, String.reduceEq, i0, i1, i2, i7, hcp2, hgr2, hEl2, hEb, hEb0, encV_one, encV_sh, Nat.zero_add, Nat.zero_mul]
          refine cald_eq hb3 ?_
          simp only [go_sem, Nat.reduceEqDiff, Nat.reduceBEq, Int.reduceToNat, Int.reduceLT, Int.reduceLE, Int.reduceEq, Nat.reduceLeDiff, Nat.reduceLT, Nat.reduceMul, Nat.reduceAdd, String.reduceEq, i0, i1, i2, i7, hw]
          refine hQ .normal _ ?_; clear hQ Q
          have hn3 := hslot E S3 (fun _ => by omega) (B.length + (R.length + 1))
          refine ⟨B.length + (R.length + 1), (rowsK b S3.dl.length (X1 X E.length)).length, (k + 1, E, S3), h, ?_, ⟨hlt, hrest, by dsimp only; omega, hd4, (fun _ => by (try dsimp only); omega), fun h => hSX (Nat.le_zero.1 (h ▸ hle)), Nat.le_trans hS0 hle⟩, by dsimp only; omega⟩
          dsimp only
          simp only [List.mem_cons, List.not_mem_nil, or_false, forall_eq_or_imp, forall_eq, hn3, and_true]
          simp [upd_apply, i0, i1, i2, IV.np, np_sh, npTs]
        · have k8 : x.k = 8 := by omega
          rw [if_pos hN] at hrest
          obtain ⟨S3, hS3, hd3, hd4, r0, hb3⟩ := hblk ⟨S1.dl, failF S1.ft 11 x.p⟩ rfl
          rw [hS3] at hrest
          dsimp only at hd3 hb3 hrest
          have hle : S.dl.length ≤ S3.dl.length := Nat.le_trans hdl.1 hd3
          have h := hDend E S3 (rowsK b S3.dl.length (X1 (X1 X E.length) (E.length + 1))) hle (Nat.le_refl _) (fun _ => by omega) (rows_take (fun _ => by omega))
          rw [encT_eq] at hb3 h
          refine TS.of [] fun Q hQ => ?_
          simp only [go_sem, Nat.reduceEqDiff, Nat.reduceBEq, Int.reduceToNat, Int.reduceLT, Int.reduceLE, Int.reduceEq, Nat.reduceLeDiff, Nat.reduceLT, Nat.reduceMul, Nat.reduceAdd, String.reduceEq, i0, i1, i2, i7, hm, hlt, hat, hlt7, eq_false k1, eq_false k6, eq_false k7, eq_true k8]
          refine cal_eq hde ?_
          simp only [go_sem, Nat.reduceEqDiff, Nat.reduceBEq, Int.reduceToNat, Int.reduceLT, Int.reduceLE, Int.reduceEq, Nat.reduceLeDiff, Nat.reduceLT, Nat.reduceMul, Nat.reduceAdd, String.reduceEq, i0, i1, i2, i7, hN]
          refine cal_eq hf ?_
          simp only [go_sem, Nat.reduceEqDiff, Nat.reduceBEq, Int.reduceToNat, Int.reduceLT, Int.reduceLE, Int.reduceEq, Nat.reduceLeDiff, Nat.reduceLT, Nat.reduceMul, Nat.reduceAdd, String.reduceEq, i0, i1, i2, i7]
          refine drn_of ⟨[], [98, 103], [B.length + (R.length + 1)]⟩ [0, 0, 2, 0, 0, 24, 0, 64, 192, 448, 1016, 2047] (by kernel_rfl) ?_
          simp only [go_sem, Nat.reduceEqDiff, Nat.reduceBEq, Int.reduceToNat, Int.reduceLT, Int.reduceLE, Int.reduceEq, Nat.reduceLeDiff, Nat.reduceLT, Nat.reduceMul, Nat.reduceAdd, String.reduceEq, i0, i1, i2, i7, hcp2, hgr2, hEl2, hEb, hEb0, encV_one, encV_sh, Nat.zero_add, Nat.zero_mul]
          refine cald_eq hb3 ?_
          simp only [go_sem, Nat.reduceEqDiff, Nat.reduceBEq, Int.reduceToNat, Int.reduceLT, Int.reduceLE, Int.reduceEq, Nat.reduceLeDiff, Nat.reduceLT, Nat.reduceMul, Nat.reduceAdd, String.reduceEq, i0, i1, i2, i7, hw]
          refine hQ .normal _ ?_; clear hQ Q
          have hn3 := hslot E S3 (fun _ => by omega) (B.length + (R.length + 1))
          refine ⟨B.length + (R.length + 1), (rowsK b S3.dl.length (X1 X E.length)).length, (k + 1, E, S3), h, ?_, ⟨hlt, hrest, by dsimp only; omega, hd4, (fun _ => by (try dsimp only); omega), fun h => hSX (Nat.le_zero.1 (h ▸ hle)), Nat.le_trans hS0 hle⟩, by dsimp only; omega⟩
          dsimp only
          simp only [List.mem_cons, List.not_mem_nil, or_false, forall_eq_or_imp, forall_eq, hn3, and_true]
          simp [upd_apply, i0, i1, i2, IV.np, np_sh, npTs]
      · by_cases k7 : x.k = 7
        · rw [if_neg hN] at hrest
          obtain ⟨S3, hS3, hd3, hd4, r0, hb3⟩ := hblk S1 rfl
          rw [hS3] at hrest
          dsimp only at hd3 hb3 hrest
          have hle : S.dl.length ≤ S3.dl.length := Nat.le_trans hdl.1 hd3
          have h := hDend E S3 (rowsK b S3.dl.length (X1 (X1 X E.length) (E.length + 1))) hle (Nat.le_refl _) (fun _ => by omega) (rows_take (fun _ => by omega))
          rw [encT_eq] at hb3 h
          refine TS.of [] fun Q hQ => ?_
          simp only [go_sem, Nat.reduceEqDiff, Nat.reduceBEq, Int.reduceToNat, Int.reduceLT, Int.reduceLE, Int.reduceEq, Nat.reduceLeDiff, Nat.reduceLT, Nat.reduceMul, Nat.reduceAdd, String.reduceEq, i0, i1, i2, i7, hm, hlt, hat, hlt7, eq_false k1, eq_false k6, eq_true k7]
          refine cal_eq hde ?_
          simp only [go_sem, Nat.reduceEqDiff, Nat.reduceBEq, Int.reduceToNat, Int.reduceLT, Int.reduceLE, Int.reduceEq, Nat.reduceLeDiff, Nat.reduceLT, Nat.reduceMul, Nat.reduceAdd, String.reduceEq, i0, i1, i2, i7, hN]
          refine drn_of ⟨[], [98, 103], [B.length + (R.length + 1)]⟩ [0, 0, 2, 0, 0, 24, 0, 64, 192, 448, 1016, 2047] (by kernel_rfl) ?_
          simp only [go_sem, Nat.reduceEqDiff, Nat.reduceBEq, Int.reduceToNat, Int.reduceLT, Int.reduceLE, Int.reduceEq, Nat.reduceLeDiff, Nat.reduceLT, Nat.reduceMul, Nat.reduceAdd, String.reduceEq, i0, i1, i2, i7, hcp2, hgr2, hEl2, hEb, hEb0, encV_one, encV_sh, Nat.zero_add, Nat.zero_mul]
          refine cald_eq hb3 ?_
          simp only [go_sem, Nat.reduceEqDiff, Nat.reduceBEq, Int.reduceToNat, Int.reduceLT, Int.reduceLE, Int.reduceEq, Nat.reduceLeDiff, Nat.reduceLT, Nat.reduceMul, Nat.reduceAdd, String.reduceEq, i0, i1, i2, i7, hw]
          refine hQ .normal _ ?_; clear hQ Q
          have hn3 := hslot E S3 (fun _ => by omega) (B.length + (R.length + 1))
          refine ⟨B.length + (R.length + 1), (rowsK b S3.dl.length (X1 X E.length)).length, (k + 1, E, S3), h, ?_, ⟨hlt, hrest, by dsimp only; omega, hd4, (fun _ => by (try dsimp only); omega), fun h => hSX (Nat.le_zero.1 (h ▸ hle)), Nat.le_trans hS0 hle⟩, by dsimp only; omega⟩
          dsimp only
          simp only [List.mem_cons, List.not_mem_nil, or_false, forall_eq_or_imp, forall_eq, hn3, and_true]
          simp [upd_apply, i0, i1, i2, IV.np, np_sh, npTs]
        · have k8 : x.k = 8 := by omega
          rw [if_neg hN] at hrest
          obtain ⟨S3, hS3, hd3, hd4, r0, hb3⟩ := hblk S1 rfl
          rw [hS3] at hrest
          dsimp only at hd3 hb3 hrest
          have hle : S.dl.length ≤ S3.dl.length := Nat.le_trans hdl.1 hd3
          have h := hDend E S3 (rowsK b S3.dl.length (X1 (X1 X E.length) (E.length + 1))) hle (Nat.le_refl _) (fun _ => by omega) (rows_take (fun _ => by omega))
          rw [encT_eq] at hb3 h
          refine TS.of [] fun Q hQ => ?_
          simp only [go_sem, Nat.reduceEqDiff, Nat.reduceBEq, Int.reduceToNat, Int.reduceLT, Int.reduceLE, Int.reduceEq, Nat.reduceLeDiff, Nat.reduceLT, Nat.reduceMul, Nat.reduceAdd, String.reduceEq, i0, i1, i2, i7, hm, hlt, hat, hlt7, eq_false k1, eq_false k6, eq_false k7, eq_true k8]
          refine cal_eq hde ?_
          simp only [go_sem, Nat.reduceEqDiff, Nat.reduceBEq, Int.reduceToNat, Int.reduceLT, Int.reduceLE, Int.reduceEq, Nat.reduceLeDiff, Nat.reduceLT, Nat.reduceMul, Nat.reduceAdd, String.reduceEq, i0, i1, i2, i7, hN]
          refine drn_of ⟨[], [98, 103], [B.length + (R.length + 1)]⟩ [0, 0, 2, 0, 0, 24, 0, 64, 192, 448, 1016, 2047] (by kernel_rfl) ?_
          simp only [go_sem, Nat.reduceEqDiff, Nat.reduceBEq, Int.reduceToNat, Int.reduceLT, Int.reduceLE, Int.reduceEq, Nat.reduceLeDiff, Nat.reduceLT, Nat.reduceMul, Nat.reduceAdd, String.reduceEq, i0, i1, i2, i7, hcp2, hgr2, hEl2, hEb, hEb0, encV_one, encV_sh, Nat.zero_add, Nat.zero_mul]
          refine cald_eq hb3 ?_
          simp only [go_sem, Nat.reduceEqDiff, Nat.reduceBEq, Int.reduceToNat, Int.reduceLT, Int.reduceLE, Int.reduceEq, Nat.reduceLeDiff, Nat.reduceLT, Nat.reduceMul, Nat.reduceAdd, String.reduceEq, i0, i1, i2, i7, hw]
          refine hQ .normal _ ?_; clear hQ Q
          have hn3 := hslot E S3 (fun _ => by omega) (B.length + (R.length + 1))
          refine ⟨B.length + (R.length + 1), (rowsK b S3.dl.length (X1 X E.length)).length, (k + 1, E, S3), h, ?_, ⟨hlt, hrest, by dsimp only; omega, hd4, (fun _ => by (try dsimp only); omega), fun h => hSX (Nat.le_zero.1 (h ▸ hle)), Nat.le_trans hS0 hle⟩, by dsimp only; omega⟩
          dsimp only
          simp only [List.mem_cons, List.not_mem_nil, or_false, forall_eq_or_imp, forall_eq, hn3, and_true]
          simp [upd_apply, i0, i1, i2, IV.np, np_sh, npTs]
    rw [if_neg k78] at hrest
    obtain ⟨y, z, ly, hxx⟩ := hs2 (by omega)
    rw [hxx, List.getD_cons_zero, List.getD_cons_succ, List.getD_cons_zero] at hrest
    have hob : encT x = [ii x.k, ss x.s, .sl .sh (ly.length + 1 + 1) (ii y.k :: ii y.n :: ss y.s :: slE y.a :: ii y.p :: ii z.k :: ii z.n :: ss z.s :: slE z.a :: ii z.p :: encEs ly), ii x.n, slT x.b, slT x.e, ii x.p] := by rw [encT_eq, hxx]; simp only [slE, hes, List.length_cons, List.cons_append, List.nil_append]
    rw [hxx, szs, szs] at hxsz
    have n0 : (0 : Int) < ((ly.length + 1 + 1 : Nat) : Int) := by omega
    have n1 : (1 : Int) < ((ly.length + 1 + 1 : Nat) : Int) := by omega
    have n5 : 5 < (encEs ly).length + 1 + 1 + 1 + 1 + 1 + 1 + 1 + 1 + 1 + 1 := by omega
    have hn1 := (need_sim y 1 E S.ft (by omega) hEl).mem B (R ++ [.cells (encT x)]) (rowsK b S.dl.length (X1 X E.length)) (slD b.length S.dl) hnp
    generalize needE y 1 E S.ft = ft1 at hn1 hrest
    have hn2 := (need_sim z 1 E ft1 (by omega) hEl).mem B (R ++ [.cells (encT x)]) (rowsK b S.dl.length (X1 X E.length)) (slD b.length S.dl) hnp
    generalize needE z 1 E ft1 = ft2 at hn2 hrest
    have hle : S.dl.length ≤ (⟨S.dl, ft2⟩ : KS).dl.length := Nat.le_refl _
    have h := hDend E ⟨S.dl, ft2⟩ (rowsK b S.dl.length (X1 X E.length)) (Nat.le_refl _) (Nat.le_refl _) hEne (by simp)
    rw [hob] at hn1 hn2 h
    rw [encE_eq] at hn1 hn2
    have k7 : ¬ x.k = 7 := by omega
    have k8 : ¬ x.k = 8 := by omega
    refine TS.of [] fun Q hQ => ?_
    simp only [go_sem, Nat.reduceEqDiff, Nat.reduceBEq, Int.reduceToNat, Int.reduceLT, Int.reduceLE, Int.reduceEq, Nat.reduceLeDiff, Nat.reduceLT, Nat.reduceMul, Nat.reduceAdd, String.reduceEq, i0, i1, i2, i7, hm, hlt, hat, hlt7, eq_false k1, eq_false k6, eq_false k7, eq_false k8, hxx, hes, n0, n1, n5, Nat.zero_lt_succ]
    refine cal_eq hn1 ?_
    simp only [go_sem, Nat.reduceEqDiff, Nat.reduceBEq, Int.reduceToNat, Int.reduceLT, Int.reduceLE, Int.reduceEq, Nat.reduceLeDiff, Nat.reduceLT, Nat.reduceMul, Nat.reduceAdd, String.reduceEq, i0, i1, i2, i7, n0, n1, n5, Nat.zero_lt_succ]
    refine cal_eq hn2 ?_
    simp only [go_sem, Nat.reduceEqDiff, Nat.reduceBEq, Int.reduceToNat, Int.reduceLT, Int.reduceLE, Int.reduceEq, Nat.reduceLeDiff, Nat.reduceLT, Nat.reduceMul, Nat.reduceAdd, String.reduceEq, i0, i1, i2, i7, hw]
    refine hQ .normal _ ?_; clear hQ Q
    have hn3 := hslot E (⟨S.dl, ft2⟩ : KS) hEne (B.length + (R.length + 1))
    refine ⟨B.length + (R.length + 1), (rowsK b (⟨S.dl, ft2⟩ : KS).dl.length (X1 X E.length)).length, (k + 1, E, (⟨S.dl, ft2⟩ : KS)), h, ?_, ⟨hlt, hrest, by dsimp only; omega, hS16, hEne, fun h => hSX (Nat.le_zero.1 (h ▸ hle)), Nat.le_trans hS0 hle⟩, by dsimp only; omega⟩
    dsimp only
    simp only [List.mem_cons, List.not_mem_nil, or_false, forall_eq_or_imp, forall_eq, hn3, and_true]
    simp [upd_apply, i0, i1, i2, IV.np, np_sh, npTs]
  · refine TS.of [] fun Q hQ => ?_
    simp only [go_sem, Nat.reduceEqDiff, Nat.reduceBEq, Int.reduceToNat, Int.reduceLT, Int.reduceLE, Int.reduceEq, Nat.reduceLeDiff, Nat.reduceLT, Nat.reduceMul, Nat.reduceAdd, String.reduceEq, i0, i1, i2, i7, hm, hlt]
    refine hQ (.exit 0) _ ?_; clear hQ Q
    rw [List.drop_eq_nil_of_le (by omega), blockK] at hrest
    subst hrest
    refine TS.of [] fun Q hQ => ?_
    simp only [go_sem, Nat.reduceEqDiff, Nat.reduceBEq, Int.reduceToNat, Int.reduceLT, Int.reduceLE, Int.reduceEq, Nat.reduceLeDiff, Nat.reduceLT, Nat.reduceMul, Nat.reduceAdd, String.reduceEq, i2]
    refine hQ .ret _ ?_; clear hQ Q; refine post_ret _ _ (slV E) ?_ ?_ (DropW.fk0 B (slD b.length s0.dl) (slD b.length S.dl) s0.ft S.ft R (rowsK b s0.dl.length X) (rowsK b S.dl.length X) (rowsK b S.dl.length (X1 X E.length)) ?_ (rows_take hEne) (fun no => slD_np no)) ⟨rfl, rfl⟩
    · simp only [go_sem, Nat.reduceEqDiff, Nat.reduceBEq, Int.reduceToNat, Int.reduceLT, Int.reduceLE, Int.reduceEq, Nat.reduceLeDiff, Nat.reduceLT, Nat.reduceMul, Nat.reduceAdd, String.reduceEq]
    · simp [IV.np, npV, np_sh]
    · obtain ⟨d, hd⟩ := Nat.exists_eq_add_of_le hS0
      rw [hd]; exact rowsK_le hX
theorem kblock_all : ∀ N, N < 900000 → KBC N := by
  intro N
  induction N using Nat.strongRecOn with
  | ind N ih => intro hN; exact kblock_step hN fun M h => ih M h (by omega)
theorem kblock_sim {l : List Stmt} {env : Env} {s : KS} (hg : KG l env s) : SimK 52 [slT l, slV env] s (slV (blockK l env s).1) (blockK l env s).2 := kblock_all (szt l) (by have := hg.len; omega) l env s (Nat.le_refl _) hg
end Go.Proofs.Ytphjldhdnmoolaa.A
/- The walks of some functions over the abstract machine. -/
namespace Go.Proofs.Ytphjldhdnmoolaa.A
open Go
structure OkE (cs : CS) (E : Env) : Prop where
  ft : cs.ft = none
  kn : ∀ s, getM s cs.kn = look s E
  pos : ∀ s v, look s E = some v → 0 < v
def OutE (e : Expr) (E : Env) (cs : CS) : Prop := ((cexpr e cs).2.2 = { cs with rd := cs.rd || cellsE e } ∧ (kindE e E (0, 0)).2 = (0, 0) ∧ (kindE e E (0, 0)).1 = (cexpr e cs).1 ∧ 0 < (cexpr e cs).1) ∨ ∃ c a, c ≠ 0 ∧ (cexpr e cs).2.2.ft = some (c, a) ∧ (kindE e E (0, 0)).2 = (c, a)
theorem fail_none_ft {cs : CS} (h : cs.ft = none) (c a : Int) : (cs.fail c a).ft = some (c, a) := by rw [fail_none h]
theorem rd_same (cs : CS) (b : Bool) (h : b = false) : ({ cs with rd := cs.rd || b } : CS) = cs := by rw [h, Bool.or_false]
theorem OkE.rd {cs : CS} {E : Env} (h : OkE cs E) (b : Bool) : OkE { cs with rd := b } E := ⟨h.ft, h.kn, h.pos⟩
theorem args_eq {E : Env} {k : Int} {s : Bytes} {kind : Int} (hk : kind ≠ 0) (hW : ∀ i T, wantsP k s i T = kind) : ∀ (l : List Expr), (∀ e ∈ l, ∀ cs, OkE cs E → OutE e E cs) → ∀ (cs : CS) (i : Nat) (T : List Int), OkE cs E →
    ((cargs l kind cs).2 = { cs with rd := cs.rd || cells l } ∧ kindA k s l E i T (0, 0) = (0, 0)) ∨ ∃ c a, c ≠ 0 ∧ (cargs l kind cs).2.ft = some (c, a) ∧ kindA k s l E i T (0, 0) = (c, a)
  | [], _, cs, i, T, h => .inl ⟨(rd_same cs _ rfl).symm, rfl⟩
  | e :: l, he, cs, i, T, h => by
    have ih := args_eq hk hW l (fun x hx => he x (List.mem_cons_of_mem _ hx))
    rw [cargs, kindA]
    dsimp only
    rw [hW]
    rcases he e (List.mem_cons_self ..) cs h with ⟨h1, h2, h3, h4⟩ | ⟨c, a, hc, h1, h2⟩
    · rw [h1, h2, h3]
      by_cases ht : (cexpr e cs).1 = kind
      · rw [if_pos ht, if_neg (fun x => x.2 ht)]
        rcases ih { cs with rd := cs.rd || cellsE e } (i + 1) (T ++ [(cexpr e cs).1]) (h.rd _) with ⟨g1, g2⟩ | g
        · exact .inl ⟨by rw [g1, cells, Bool.or_assoc], g2⟩
        · exact .inr g
      · rw [if_neg ht, if_pos ⟨hk, ht⟩, failF_0]
        have hf : (CS.fail 10 e.p { cs with rd := cs.rd || cellsE e }).ft = some (10, e.p) := by rw [fail_none (h.rd _).ft]
        exact .inr ⟨10, e.p, by decide, cargs_ft l kind _ hf, kindA_ft E (st := (10, e.p)) (show (10 : Int) ≠ 0 by decide) k s l _ _⟩
    · rw [h2]
      have h5 : (if kind ≠ 0 ∧ (kindE e E (0, 0)).1 ≠ kind then failF (c, a) 10 e.p else (c, a)) = (c, a) := by
        split
        · exact failF_ne hc _ _
        · rfl
      rw [h5]
      refine .inr ⟨c, a, hc, cargs_ft l kind _ ?_, kindA_ft E (st := (c, a)) hc k s l _ _⟩
      split
      · exact h1
      · rw [fail_some h1]; exact h1
theorem arith_of {s : Bytes} (h : level s ≠ 0) (h1 : ¬ (s = qAnd ∨ s = qOr)) (h2 : ¬ (s = qLt ∨ s = qLe ∨ s = qGt ∨ s = qGe)) (h3 : ¬ (s = qEq ∨ s = qNe)) : arith s = true := by
  unfold level at h
  unfold arith
  simp only [Bool.or_eq_true, decide_eq_true_eq]
  by_cases e1 : s = qOr
  · exact absurd (.inr e1) h1
  rw [if_neg e1] at h
  by_cases e2 : s = qAnd
  · exact absurd (.inl e2) h1
  rw [if_neg e2, if_neg (by rintro (h | h | h | h | h | h); exact h2 (.inl h); exact h2 (.inr (.inl h)); exact h2 (.inr (.inr (.inl h))); exact h2 (.inr (.inr (.inr h))); exact h3 (.inl h); exact h3 (.inr h))] at h
  by_cases e4 : s = qAdd ∨ s = qSub
  · rcases e4 with e | e
    · exact .inl e
    · exact .inr (.inl e)
  rw [if_neg e4] at h
  by_cases e5 : s = qMul ∨ s = qDiv ∨ s = qRem
  · exact .inr (.inr e5)
  · rw [if_neg e5] at h; exact absurd rfl h
theorem expr_same : ∀ (N : Nat) (e : Expr), szE e ≤ N → fitE e → ∀ (E : Env) (cs : CS), OkE cs E → OutE e E cs := by
  intro N
  induction N using Nat.strongRecOn with
  | ind N ih =>
  intro e hN hfit E cs hok
  obtain ⟨k, n, s, a, p⟩ := e
  simp only [szE] at hN
  have hsub : ∀ x ∈ a, ∀ cs, OkE cs E → OutE x E cs := fun x hx cs h => by
    obtain ⟨j, hj⟩ := List.mem_iff_getElem?.1 hx
    have := szE_at hj
    exact ih (szE x) (by omega) x (Nat.le_refl _) (fitEs_mem hfit.1 x hx) E cs h
  unfold OutE
  obtain ⟨_, hf⟩ := hfit
  rw [cexpr, kindE, cellsE]
  rcases hf with ⟨rfl, rfl⟩ | ⟨rfl, rfl⟩ | ⟨hk, x, rfl⟩ | ⟨rfl, ⟨x, y, rfl⟩, hlev⟩
  · rw [if_pos rfl, if_neg (by decide), if_neg (by decide), if_neg (by decide)]
    exact .inl ⟨(rd_same cs _ rfl).symm, rfl, rfl, (by decide : (0 : Int) < 1)⟩
  · rw [if_neg (by decide), if_pos rfl, if_pos rfl]
    by_cases ht : s = qTrue ∨ s = qFalse
    · rw [if_pos ht, if_pos ht]; exact .inl ⟨(rd_same cs _ rfl).symm, rfl, rfl, by first | exact (by decide : (0 : Int) < 1) | exact (by decide : (0 : Int) < 2)⟩
    · rw [if_neg ht, if_neg ht, hok.kn s]
      cases hl : look s E with
      | some v => exact .inl ⟨(rd_same cs _ rfl).symm, rfl, rfl, hok.pos s v hl⟩
      | none =>
        refine .inr ⟨9, p, by decide, ?_, rfl⟩
        dsimp only
        rw [fail_none hok.ft]
  · rcases hk with rfl | rfl | rfl
    · rw [if_neg (by decide), if_neg (by decide), if_pos rfl, if_neg (by decide), if_neg (by decide), if_neg (by decide)]
      rcases args_eq (kind := 1) (k := 3) (s := s) (by decide) (fun i T => by simp [wantsP]) [x] hsub { cs with rd := true } 0 [] (hok.rd _) with ⟨g1, g2⟩ | ⟨c, a, hc, g1, g2⟩
      · exact .inl ⟨by dsimp only; rw [g1]; simp, g2, rfl, by first | exact (by decide : (0 : Int) < 1) | exact (by decide : (0 : Int) < 2)⟩
      · exact .inr ⟨c, a, hc, g1, g2⟩
    · rw [if_neg (by decide), if_neg (by decide), if_neg (by decide), if_pos rfl, if_neg (by decide), if_pos rfl]
      rcases args_eq (kind := 2) (k := 4) (s := s) (by decide) (fun i T => by simp [wantsP]) [x] hsub cs 0 [] hok with ⟨g1, g2⟩ | ⟨c, a, hc, g1, g2⟩
      · exact .inl ⟨by dsimp only; rw [g1]; simp, g2, rfl, by first | exact (by decide : (0 : Int) < 1) | exact (by decide : (0 : Int) < 2)⟩
      · exact .inr ⟨c, a, hc, g1, g2⟩
    · rw [if_neg (by decide), if_neg (by decide), if_neg (by decide), if_neg (by decide), if_pos rfl, if_neg (by decide), if_neg (by decide), if_neg (by decide)]
      rcases args_eq (kind := 1) (k := 5) (s := s) (by decide) (fun i T => by simp [wantsP]) [x] hsub cs 0 [] hok with ⟨g1, g2⟩ | ⟨c, a, hc, g1, g2⟩
      · exact .inl ⟨by dsimp only; rw [g1]; simp, g2, rfl, by first | exact (by decide : (0 : Int) < 1) | exact (by decide : (0 : Int) < 2)⟩
      · exact .inr ⟨c, a, hc, g1, g2⟩
  · rw [if_neg (show ¬ (6 : Int) = 1 by decide), if_neg (show ¬ (6 : Int) = 2 by decide), if_neg (show ¬ (6 : Int) = 3 by decide), if_neg (show ¬ (6 : Int) = 4 by decide), if_neg (show ¬ (6 : Int) = 5 by decide), if_neg (show ¬ (6 : Int) = 2 by decide), if_neg (show ¬ (6 : Int) = 4 by decide)]
    by_cases s1 : s = qAnd ∨ s = qOr
    · have har : arith s = false := by rcases s1 with rfl | rfl <;> decide
      rw [if_pos s1, har]
      rcases args_eq (kind := 2) (k := 6) (s := s) (by decide) (fun i T => by simp [wantsP, s1]) [x, y] hsub cs 0 [] hok with ⟨g1, g2⟩ | ⟨c, a, hc, g1, g2⟩
      · exact .inl ⟨by dsimp only; rw [g1]; simp, g2, rfl, by first | exact (by decide : (0 : Int) < 1) | exact (by decide : (0 : Int) < 2)⟩
      · exact .inr ⟨c, a, hc, g1, g2⟩
    rw [if_neg s1]
    by_cases s2 : s = qLt ∨ s = qLe ∨ s = qGt ∨ s = qGe
    · have har : arith s = false := by rcases s2 with rfl | rfl | rfl | rfl <;> decide
      have h3 : ¬ (s = qEq ∨ s = qNe) := by clear har; rcases s2 with rfl | rfl | rfl | rfl <;> decide
      rw [if_pos s2, har]
      rcases args_eq (kind := 1) (k := 6) (s := s) (by decide) (fun i T => by simp [wantsP, s1, h3]) [x, y] hsub cs 0 [] hok with ⟨g1, g2⟩ | ⟨c, a, hc, g1, g2⟩
      · exact .inl ⟨by dsimp only; rw [g1]; simp, g2, rfl, by first | exact (by decide : (0 : Int) < 1) | exact (by decide : (0 : Int) < 2)⟩
      · exact .inr ⟨c, a, hc, g1, g2⟩
    rw [if_neg s2]
    by_cases s3 : s = qEq ∨ s = qNe
    · have har : arith s = false := by rcases s3 with rfl | rfl <;> decide
      rw [if_pos s3, if_pos (show [x, y].length = 2 from rfl), har, ceq_two]
      have hw0 : ∀ T, wantsP 6 s 0 T = 0 := fun T => by simp [wantsP, s1, s3]
      have hw1 : ∀ t u, wantsP 6 s 1 [t, u] = t := fun t u => by simp [wantsP, s1, s3]
      have hkA : kindA 6 s [x, y] E 0 [] (0, 0) = (if (kindE x E (0, 0)).1 ≠ 0 ∧ (kindE y E (kindE x E (0, 0)).2).1 ≠ (kindE x E (0, 0)).1 then failF (kindE y E (kindE x E (0, 0)).2).2 10 y.p else (kindE y E (kindE x E (0, 0)).2).2) := by
        simp only [kindA, List.nil_append, hw0, ne_eq, not_true_eq_false, false_and, if_false, List.cons_append, hw1]
      rw [hkA]
      simp only [Bool.false_eq_true, if_false, if_true]
      rcases hsub x (by simp) cs hok with ⟨g1, g2, g3, g4⟩ | ⟨c, a, hc, g1, g2⟩
      · rw [g1, g2, g3]
        rcases hsub y (by simp) { cs with rd := cs.rd || cellsE x } (hok.rd _) with ⟨q1, q2, q3, q4⟩ | ⟨c, a, hc, q1, q2⟩
        · unfold cwant
          dsimp only
          rw [q1, q2, q3]
          by_cases ht : (cexpr y { cs with rd := cs.rd || cellsE x }).1 = (cexpr x cs).1
          · rw [if_pos ht, if_neg (fun h => h.2 ht)]
            exact .inl ⟨by simp [cells, Bool.or_assoc], rfl, by first | rfl | trivial, by first | exact (by decide : (0 : Int) < 1) | exact (by decide : (0 : Int) < 2)⟩
          · rw [if_neg ht, if_pos ⟨by omega, ht⟩, failF_0]
            exact .inr ⟨10, y.p, by decide, fail_none_ft (cs := { cs with rd := _ }) (by exact hok.ft) _ _, rfl⟩
        · rw [q2]
          refine .inr ⟨c, a, hc, ?_, ?_⟩
          · unfold cwant; dsimp only
            split
            · exact q1
            · rw [fail_some q1]; exact q1
          · split
            · exact failF_ne hc _ _
            · rfl
      · refine .inr ⟨c, a, hc, cwant_ft y _ _ g1, ?_⟩
        rw [g2, kindE_ft E (st := (c, a)) hc y]
        split
        · exact failF_ne hc _ _
        · rfl
    · have har := arith_of hlev s1 s2 s3
      rw [if_neg s3, har]
      rcases args_eq (kind := 1) (k := 6) (s := s) (by decide) (fun i T => by simp [wantsP, s1, s3]) [x, y] hsub cs 0 [] hok with ⟨g1, g2⟩ | ⟨c, a, hc, g1, g2⟩
      · exact .inl ⟨by dsimp only; rw [g1]; simp, g2, rfl, by first | exact (by decide : (0 : Int) < 1) | exact (by decide : (0 : Int) < 2)⟩
      · exact .inr ⟨c, a, hc, g1, g2⟩
theorem expr_eq {e : Expr} (h : fitE e) {E : Env} {cs : CS} (ho : OkE cs E) : OutE e E cs := expr_same _ e (Nat.le_refl _) h E cs ho
end Go.Proofs.Ytphjldhdnmoolaa.A
/- The walks of some functions over the abstract machine. -/
namespace Go.Proofs.Ytphjldhdnmoolaa.A
open Go
/-! ref08: Check -/
def declK : List Bytes → Env → KS → Env × KS
  | [], E, s => (E, s)
  | p :: l, E, s => declK l (E ++ [(p, 1)]) (s.declare p 0)
def needsK (want : Int) : List Expr → Env → Int → Int × Int → Int × (Int × Int)
  | [], _, n, st => (n, st)
  | e :: l, E, n, st => needsK want l E (IntKind.i64.wrap (n + sizeE e)) (needE e want E st)
abbrev KS0 : KS := ⟨[], (0, 0)⟩
def rP (d : Def) : Env × KS := declK d.params [] KS0
def rN (d : Def) : Int × (Int × Int) := needsK 2 d.needs (rP d).1 (stepTs d.body 0) (rP d).2.ft
def rB (d : Def) : Env × KS := blockK d.body (rP d).1 ⟨(rP d).2.dl, (rN d).2⟩
def rG (d : Def) : Int × (Int × Int) := needsK 1 d.give (rB d).1 (rN d).1 (rB d).2.ft
def rF (d : Def) : Int × Int := if 2048 < (rG d).1 then failF (rG d).2 11 0 else (rG d).2
def rMode (d : Def) : Int := if hasTs 2 5 d.body then (if !hasTs 2 2 d.body && (!hasTs 5 5 d.body && !(readsTs d.body || (cells d.needs || cells d.give))) then 2 else 3) else 1
def rcheck (d : Def) : Info × Int × Int :=
  if 8 < d.params.length then (Info0, 15, 0)
  else if (rF d).1 ≠ 0 then (Info0, (rF d).1, (rF d).2)
  else (⟨rMode d, (rG d).1, (rB d).2.dl.length, !hasTs 2 2 d.body && !readsTs d.body⟩, 0, 0)
theorem declK_dl : ∀ (l : List Bytes) (E : Env) (s : KS), (declK l E s).1.length = E.length + l.length ∧ (s.dl.length ≤ 16 → (declK l E s).2.dl.length ≤ 16) ∧ (l ≠ [] ∨ s.dl.length ≠ 0 → (declK l E s).2.dl.length ≠ 0)
  | [], E, s => ⟨by simp [declK], fun h => h, fun h => by rcases h with h | h; exact absurd rfl h; exact h⟩
  | p :: l, E, s => by
    have h1 := declK_dl l (E ++ [(p, 1)]) (s.declare p 0)
    rw [declK]
    refine ⟨by rw [h1.1]; simp; omega, fun h => h1.2.1 (declare_16 p 0 s h), fun _ => h1.2.2 (.inr fun h => declare_ne p 0 s (List.length_eq_zero_iff.1 h))⟩
theorem stmtK_len (x : Stmt) (env : Env) (st : KS) : (stmtK x env st).1.length ≤ env.length + 1 := by
  rw [stmtK_eq]; (repeat' split) <;> simp
theorem blockK_len : ∀ (l : List Stmt) (env : Env) (st : KS), (blockK l env st).1.length ≤ env.length + szt l
  | [], env, st => by simp [blockK]
  | s :: l, env, st => by
    have h1 := stmtK_len s env st
    have h2 := blockK_len l (stmtK s env st).1 (stmtK s env st).2
    have h3 := szT_eq s
    rw [blockK, szt]; omega
theorem enc_at {l : List Bytes} {k : Nat} (h : k < l.length) : ∃ p, l.drop k = p :: l.drop (k + 1) ∧ (l.map (IV.v <| .string ·)).drop k = ss p :: (l.drop (k + 1)).map (IV.v <| .string ·) :=
  ⟨_, List.drop_eq_getElem_cons h, by rw [← List.map_drop, List.drop_eq_getElem_cons h]; rfl⟩
set_option maxRecDepth 100000 in
set_option maxHeartbeats 4000000 in
theorem rcheck_sim (m : Mem) (d : Def) (hd : DefOK d) (ha : argTs d.body) : Sim 24 [.agg (encD d)] m (fun r m' => r = .tup [.agg (encI (rcheck d).1), ii (rcheck d).2.1, ii (rcheck d).2.2] ∧ m' = m) := by
  have hsize := hd.size
  have hpar := hd.params
  have hsn := szs_len d.needs
  have hsg := szs_len d.give
  refine Sim.ofS 165 [.cell 2 31, .tmp 3, .tmp 4] Try.func24 rfl rfl rfl (by simp) fun wr => ?_
  simp only [go_sem, Nat.reduceEqDiff, Nat.reduceBEq, Int.reduceToNat, Int.reduceLT, Int.reduceLE, Int.reduceEq, Nat.reduceLeDiff, Nat.reduceLT, Nat.reduceMul, Nat.reduceAdd, String.reduceEq]
  refine TS.seq (TS.of [1] fun Q hQ => ?_)
  simp only [go_sem, Nat.reduceEqDiff, Nat.reduceBEq, Int.reduceToNat, Int.reduceLT, Int.reduceLE, Int.reduceEq, Nat.reduceLeDiff, Nat.reduceLT, Nat.reduceMul, Nat.reduceAdd, String.reduceEq, encD]
  refine hQ .normal _ ?_; clear hQ Q
  refine TS.seq (TS.of [1] fun Q hQ => ?_)
  simp only [go_sem, Nat.reduceEqDiff, Nat.reduceBEq, Int.reduceToNat, Int.reduceLT, Int.reduceLE, Int.reduceEq, Nat.reduceLeDiff, Nat.reduceLT, Nat.reduceMul, Nat.reduceAdd, String.reduceEq]
  refine hQ .normal _ ?_; clear hQ Q
  by_cases h8 : 8 < d.params.length
  · have h8' : (8 : Int) < (d.params.length : Int) := by omega
    have hv : rcheck d = (Info0, 15, 0) := by unfold rcheck; rw [if_pos h8]
    rw [hv]
    refine TS.of [1] fun Q hQ => ?_
    simp only [go_sem, Nat.reduceEqDiff, Nat.reduceBEq, Int.reduceToNat, Int.reduceLT, Int.reduceLE, Int.reduceEq, Nat.reduceLeDiff, Nat.reduceLT, Nat.reduceMul, Nat.reduceAdd, String.reduceEq, encD, h8']
    refine hQ .ret _ ?_; clear hQ Q; refine post_ret _ _ (.tup [.agg (encI Info0), ii 15, ii 0]) ?_ ?_ (DropW.tail0 _ rfl) ⟨rfl, rfl⟩
    · simp only [go_sem, Nat.reduceEqDiff, Nat.reduceBEq, Int.reduceToNat, Int.reduceLT, Int.reduceLE, Int.reduceEq, Nat.reduceLeDiff, Nat.reduceLT, Nat.reduceMul, Nat.reduceAdd, String.reduceEq]
    · rfl
  have h8' : ¬ (8 : Int) < (d.params.length : Int) := by omega
  obtain ⟨B, hB⟩ : ∃ B, B = m.objs ++ [.cells (encI Info0)] := ⟨_, rfl⟩
  have hBl : B.length = m.objs.length + 1 := by rw [hB]; simp
  obtain ⟨b, hb⟩ : ∃ b, b = m.rows := ⟨_, rfl⟩
  refine TS.seq (TS.mono (Q := fun e s => e = .normal ∧ (s.t 1 = .ref (encD d) ∧ s.t 2 = .ptr m.objs.length 0 ∧ s.t 5 = .ptr B.length 0) ∧ s.m = ⟨FM B (slD b.length []) (0, 0) [], rowsK b 0 (X1 [] 0)⟩) ?_ ?_)
  · refine TS.of [1] fun Q hQ => ?_
    simp only [go_sem, Nat.reduceEqDiff, Nat.reduceBEq, Int.reduceToNat, Int.reduceLT, Int.reduceLE, Int.reduceEq, Nat.reduceLeDiff, Nat.reduceLT, Nat.reduceMul, Nat.reduceAdd, String.reduceEq, encD, h8']
    refine hQ .normal _ ?_
    refine ⟨rfl, ?_, ?_⟩
    · rw [hBl]; simp [upd_apply, argsT, encD]
    · rw [FM, hB, hb]; simp [rowsK, accK]
  rintro e s ⟨rfl, ⟨i1, i2, i5⟩, hm⟩
  refine TS.seq (TS.of [1] fun Q hQ => ?_)
  simp only [go_sem, Nat.reduceEqDiff, Nat.reduceBEq, Int.reduceToNat, Int.reduceLT, Int.reduceLE, Int.reduceEq, Nat.reduceLeDiff, Nat.reduceLT, Nat.reduceMul, Nat.reduceAdd, String.reduceEq]
  refine hQ .normal _ ?_; clear hQ Q
  have hdk := declK_dl d.params [] KS0
  obtain ⟨P, hPd⟩ : ∃ P, P = rP d := ⟨_, rfl⟩
  have hP : declK d.params [] KS0 = P := hPd.symm
  rw [hP] at hdk
  refine TS.seq (TS.mono (Q := fun e s => e = .normal ∧ (s.t 1 = .ref (encD d) ∧ s.t 2 = .ptr m.objs.length 0 ∧ s.t 5 = .ptr B.length 0 ∧ s.t 6 = slW (b.length + 1 + 0) P.1) ∧ s.m = ⟨FM B (slD b.length P.2.dl) P.2.ft [], rowsK b P.2.dl.length (X1 [] P.1.length)⟩) ?_ ?_)
  · refine TS.seq (TS.of [1] fun Q hQ => ?_)
    simp only [go_sem, Nat.reduceEqDiff, Nat.reduceBEq, Int.reduceToNat, Int.reduceLT, Int.reduceLE, Int.reduceEq, Nat.reduceLeDiff, Nat.reduceLT, Nat.reduceMul, Nat.reduceAdd, String.reduceEq]
    refine hQ .normal _ ?_; clear hQ Q
    refine TS.block (TS.loop (α := Nat × Env × KS) (fun x => [(1, .ref (encD d)), (2, .ptr m.objs.length 0), (5, .ptr B.length 0), (6, slW (b.length + 1 + 0) x.2.1), (7, ii x.1)]) (fun x => ⟨FM B (slD b.length x.2.2.dl) x.2.2.ft [], rowsK b x.2.2.dl.length (X1 [] x.2.1.length)⟩) (fun x => x.1 ≤ d.params.length ∧ declK (d.params.drop x.1) x.2.1 x.2.2 = P ∧ x.2.2.dl.length ≤ 16 ∧ (x.2.1.length ≠ 0 → x.2.2.dl.length ≠ 0) ∧ x.2.1.length = x.1) (fun x => d.params.length - x.1) (0, [], KS0) (by simp) ⟨by simp [Has, upd_apply, i1, i2, i5, accK, encV], hm, ⟨Nat.zero_le _, hP, by simp, by simp, rfl⟩⟩ ?_)
    rintro ⟨k, E, S⟩ st hH hm2 ⟨hk, hrest, hS16, hEne, hEk⟩
    dsimp only at hH hm2 hk hrest hS16 hEne hEk
    simp only [Has, List.mem_cons, List.not_mem_nil, or_false, forall_eq_or_imp, forall_eq] at hH; obtain ⟨j1, j2, j5, j6, j7⟩ := hH
    by_cases hlt : k < d.params.length
    · obtain ⟨p, hp, hat⟩ := enc_at hlt
      have hl1 : k < (d.params.map (IV.v <| .string ·)).length := by rw [List.length_map]; exact hlt
      have hw := wrap_succ hlt (by omega)
      rw [hp, declK] at hrest
      have hX1 : S.dl.length = 0 → X1 [] E.length = [] := fun h => by
        have : E.length = 0 := Decidable.byContradiction fun h2 => hEne h2 h
        rw [this]; rfl
      have hde := (rdeclare_sim p 0 S (by omega)).mem B [] b (X1 [] E.length) hX1
      have hdne := declare_ne p 0 S
      have hdl := declare_len p 0 S
      have hd16 := declare_16 p 0 S hS16
      generalize KS.declare p 0 S = S2 at hde hrest hdne hdl hd16
      have hS2 : S2.dl.length ≠ 0 := fun h => hdne (List.length_eq_zero_iff.1 h)
      have hgr := app_grow (b := b) (X := []) (n := S2.dl.length) (k := E.length) hS2
      rw [List.length_nil] at hgr
      have hEl2 : (encV E).length = E.length * 2 := encV_len E
      have hEb : (E.length + 1) * 24 ≤ 140737488355328 := by omega
      refine TS.of [1] fun Q hQ => ?_
      simp only [go_sem, Nat.reduceEqDiff, Nat.reduceBEq, Int.reduceToNat, Int.reduceLT, Int.reduceLE, Int.reduceEq, Nat.reduceLeDiff, Nat.reduceLT, Nat.reduceMul, Nat.reduceAdd, String.reduceEq, j1, j2, j5, j6, j7, hm2, encD, hlt, hat, hl1]
      refine cal_eq hde ?_
      simp only [go_sem, Nat.reduceEqDiff, Nat.reduceBEq, Int.reduceToNat, Int.reduceLT, Int.reduceLE, Int.reduceEq, Nat.reduceLeDiff, Nat.reduceLT, Nat.reduceMul, Nat.reduceAdd, String.reduceEq, j1, j2, j5, j6, j7, encD, hlt, hat, hl1, hgr, hEl2, hEb, hw]
      refine hQ .normal _ ?_; clear hQ Q
      have hE1 : (E ++ [(p, 1)]).length = E.length + 1 := by simp
      have hw2 : slW (b.length + 1 + 0) (E ++ [(p, 1)]) = .sl (accK (b.length + 1 + 0) 95 (E.length + 1)) (E.length + 1) (encV E ++ [ss p, ii 1]) := by simp [slW, encV_app, encV]
      have h := DropW.fk0 B (slD b.length S.dl) (slD b.length S2.dl) S.ft S2.ft [] _ _ (rowsK b S2.dl.length (X1 [] (E.length + 1))) (rows_le (b := b) (X := []) (k := E.length) (k' := E.length + 1) hdl.1 (Nat.le_succ _) hX1 (fun _ => hS2)) (by simp) (fun no => slD_np no)
      refine ⟨_, _, (k + 1, E ++ [(p, 1)], S2), by dsimp only; rw [hE1]; exact h, ?_, ⟨hlt, hrest, hd16, fun _ => hS2, by dsimp only; rw [hE1, hEk]⟩, by dsimp only; omega⟩
      dsimp only
      rw [hw2]
      have hacc : (accK (b.length + 1 + 0) 95 (E.length + 1)).np (rowsK b S2.dl.length (X1 [] (E.length + 1))).length = true := by
        unfold accK; rw [if_neg (by omega), rowsK_len hS2]; unfold X1; rw [if_neg (by omega)]; simp [SK.np]
      have hnl : ∀ no nr, npL no nr (encV E ++ [ss p, ii 1]) = true := fun no nr => npL_app (npV _ _ _) rfl
      simp only [List.mem_cons, List.not_mem_nil, or_false, forall_eq_or_imp, forall_eq, IV.np, hacc, hnl]
      simp [upd_apply, j1, j2, j5, np_sh, npS, npEs, npTs, npL, IV.np, encD] <;> omega
    · refine TS.of [1] fun Q hQ => ?_
      simp only [go_sem, Nat.reduceEqDiff, Nat.reduceBEq, Int.reduceToNat, Int.reduceLT, Int.reduceLE, Int.reduceEq, Nat.reduceLeDiff, Nat.reduceLT, Nat.reduceMul, Nat.reduceAdd, String.reduceEq, j1, j2, j5, j6, j7, hm2, encD, hlt]
      refine hQ (.exit 0) _ ?_; clear hQ Q
      rw [List.drop_eq_nil_of_le (by omega), declK] at hrest
      subst hrest
      exact ⟨rfl, by simp [upd_apply, j1, j2, j5, j6], rfl⟩
  clear i1 i2 i5 hm s
  rintro e s ⟨rfl, ⟨i1, i2, i5, i6⟩, hm⟩
  have hPl : P.1.length = d.params.length := by rw [hdk.1]; simp
  have hP16 : P.2.dl.length ≤ 16 := hdk.2.1 (by simp)
  have hPne : P.1.length ≠ 0 → P.2.dl.length ≠ 0 := fun h => hdk.2.2 (.inl fun e => h (by rw [hPl, e]; rfl))
  have hPX : P.2.dl.length = 0 → X1 [] P.1.length = [] := fun h => by
    have : P.1.length = 0 := Decidable.byContradiction fun h2 => hPne h2 h
    rw [this]; rfl
  have hPacc : (accK (b.length + 1 + 0) 95 P.1.length).np (rowsK b P.2.dl.length (X1 [] P.1.length)).length = true := by
    unfold accK
    by_cases h : P.1.length = 0
    · rw [if_pos h]; rfl
    · rw [if_neg h, rowsK_len (hPne h)]; unfold X1; rw [if_neg h]; simp [SK.np]
  generalize X1 [] P.1.length = X2 at hm hPX hPacc
  have hst := fun m : Mem => steps_sim m (szt d.body) (by omega) d.body (Nat.le_refl _) m
  refine TS.seq (TS.of [1] fun Q hQ => ?_)
  simp only [go_sem, Nat.reduceEqDiff, Nat.reduceBEq, Int.reduceToNat, Int.reduceLT, Int.reduceLE, Int.reduceEq, Nat.reduceLeDiff, Nat.reduceLT, Nat.reduceMul, Nat.reduceAdd, String.reduceEq, i1, encD]
  refine cal_eq (hst _) ?_
  simp only [go_sem, Nat.reduceEqDiff, Nat.reduceBEq, Int.reduceToNat, Int.reduceLT, Int.reduceLE, Int.reduceEq, Nat.reduceLeDiff, Nat.reduceLT, Nat.reduceMul, Nat.reduceAdd, String.reduceEq]
  refine hQ .normal _ ?_; clear hQ Q
  obtain ⟨N, hNd⟩ : ∃ N, N = rN d := ⟨_, rfl⟩
  have hN : needsK 2 d.needs P.1 (stepTs d.body 0) P.2.ft = N := by rw [hNd, rN, hPd]
  refine TS.seq (TS.seq (TS.of [1] fun Q hQ => ?_))
  simp only [go_sem, Nat.reduceEqDiff, Nat.reduceBEq, Int.reduceToNat, Int.reduceLT, Int.reduceLE, Int.reduceEq, Nat.reduceLeDiff, Nat.reduceLT, Nat.reduceMul, Nat.reduceAdd, String.reduceEq]
  refine hQ .normal _ ?_; clear hQ Q
  refine TS.block (TS.loop (α := Nat × Int × (Int × Int)) (fun x => [(1, .ref (encD d)), (2, .ptr m.objs.length 0), (5, .ptr B.length 0), (6, slW (b.length + 1 + 0) P.1), (8, ii x.2.1), (9, ii x.1)]) (fun x => ⟨FM B (slD b.length P.2.dl) x.2.2 [], rowsK b P.2.dl.length X2⟩) (fun x => x.1 ≤ d.needs.length ∧ needsK 2 (d.needs.drop x.1) P.1 x.2.1 x.2.2 = N) (fun x => d.needs.length - x.1) (0, stepTs d.body 0, P.2.ft) (by simp) ⟨by simp [Has, upd_apply, i1, i2, i5, i6], hm, ⟨Nat.zero_le _, hN⟩⟩ ?_)
  rintro ⟨k, n, ft⟩ st hH hm2 ⟨hk, hrest⟩
  dsimp only at hH hm2 hk hrest
  simp only [Has, List.mem_cons, List.not_mem_nil, or_false, forall_eq_or_imp, forall_eq] at hH; obtain ⟨j1, j2, j5, j6, j8, jk⟩ := hH
  by_cases hlt : k < d.needs.length
  · obtain ⟨x, hx⟩ : ∃ x, d.needs[k]? = some x := ⟨_, List.getElem?_eq_getElem hlt⟩
    have hdr : d.needs.drop k = x :: d.needs.drop (k + 1) := by rw [List.drop_eq_getElem_cons hlt]; congr 1; exact Option.some.inj ((List.getElem?_eq_getElem hlt).symm.trans hx)
    have hat := encEs_at hx
    have hlt5 : k * 5 < (encEs d.needs).length := by rw [encEs_length]; omega
    have hw := wrap_succ hlt (by omega)
    have hszx := szE_at hx
    rw [hdr, needsK] at hrest
    have hs := fun no => slD_np (b := b) (X := X2) (dl := P.2.dl) no
    have hn := (need_sim x 2 P.1 ft (by omega) (by omega)).mem B [] (rowsK b P.2.dl.length X2) (slD b.length P.2.dl) hs
    have hsz := fun m => size_sim m (szE x) (by omega) x (Nat.le_refl _)
    rw [encE_eq] at hn hsz
    generalize needE x 2 P.1 ft = ft' at hn hrest
    refine TS.of [1] fun Q hQ => ?_
    simp only [go_sem, Nat.reduceEqDiff, Nat.reduceBEq, Int.reduceToNat, Int.reduceLT, Int.reduceLE, Int.reduceEq, Nat.reduceLeDiff, Nat.reduceLT, Nat.reduceMul, Nat.reduceAdd, String.reduceEq, j1, j2, j5, j6, j8, jk, hm2, encD, hlt, hat, hlt5]
    refine cal_eq hn ?_
    simp only [go_sem, Nat.reduceEqDiff, Nat.reduceBEq, Int.reduceToNat, Int.reduceLT, Int.reduceLE, Int.reduceEq, Nat.reduceLeDiff, Nat.reduceLT, Nat.reduceMul, Nat.reduceAdd, String.reduceEq, j1, j2, j5, j6, j8, jk, encD, hlt, hat, hlt5]
    refine cal_eq (hsz _) ?_
    simp only [go_sem, Nat.reduceEqDiff, Nat.reduceBEq, Int.reduceToNat, Int.reduceLT, Int.reduceLE, Int.reduceEq, Nat.reduceLeDiff, Nat.reduceLT, Nat.reduceMul, Nat.reduceAdd, String.reduceEq, j1, j2, j5, j6, j8, jk, hw]
    refine hQ .normal _ ?_; clear hQ Q
    refine ⟨_, _, (k + 1, IntKind.i64.wrap (n + sizeE x), ft'), DropW.fm0 B _ ft ft' [] _ hs, ?_, ⟨hlt, hrest⟩, by dsimp only; omega⟩
    dsimp only
    simp only [List.mem_cons, List.not_mem_nil, or_false, forall_eq_or_imp, forall_eq, IV.np, hPacc, npV]
    simp [upd_apply, j1, j2, j5, j6, np_sh, npS, npEs, npTs, npL, IV.np, encD] <;> omega
  refine TS.of [1] fun Q hQ => ?_
  simp only [go_sem, Nat.reduceEqDiff, Nat.reduceBEq, Int.reduceToNat, Int.reduceLT, Int.reduceLE, Int.reduceEq, Nat.reduceLeDiff, Nat.reduceLT, Nat.reduceMul, Nat.reduceAdd, String.reduceEq, j1, j2, j5, j6, j8, jk, hm2, encD, hlt]
  refine hQ (.exit 2) _ ?_; clear hQ Q
  rw [List.drop_eq_nil_of_le (by omega), needsK] at hrest
  clear i1 i2 i5 i6 hm s
  have hrest' : (n, ft) = N := hrest
  have hn1 : n = N.1 := by rw [← hrest']
  have hf1 : ft = N.2 := by rw [← hrest']
  subst hn1 hf1
  have hkg : KG d.body P.1 ⟨P.2.dl, N.2⟩ := ⟨ha, by rw [hPl]; omega, hP16, hPne⟩
  have hblk := (kblock_sim hkg).mem B [] b X2 hPX
  have hbd := blockK_dl d.body P.1 ⟨P.2.dl, N.2⟩
  obtain ⟨BB, hBBd⟩ : ∃ BB, BB = rB d := ⟨_, rfl⟩
  have hBB : blockK d.body P.1 ⟨P.2.dl, N.2⟩ = BB := by rw [hBBd, rB, hPd, hNd]
  rw [hBB] at hblk hbd
  refine TS.seq (TS.of [1] fun Q hQ => ?_)
  simp only [go_sem, Nat.reduceEqDiff, Nat.reduceBEq, Int.reduceToNat, Int.reduceLT, Int.reduceLE, Int.reduceEq, Nat.reduceLeDiff, Nat.reduceLT, Nat.reduceMul, Nat.reduceAdd, String.reduceEq, j1, j2, j5, j6, j8, encD]
  refine cal_eq hblk ?_
  simp only [go_sem, Nat.reduceEqDiff, Nat.reduceBEq, Int.reduceToNat, Int.reduceLT, Int.reduceLE, Int.reduceEq, Nat.reduceLeDiff, Nat.reduceLT, Nat.reduceMul, Nat.reduceAdd, String.reduceEq]
  refine hQ .normal _ ?_; clear hQ Q
  obtain ⟨G, hGd⟩ : ∃ G, G = rG d := ⟨_, rfl⟩
  have hG : needsK 1 d.give BB.1 N.1 BB.2.ft = G := by rw [hGd, rG, hBBd, hNd]
  have hBX : BB.2.dl.length = 0 → X2 = [] := fun h => hPX (Nat.le_zero.1 (h ▸ hbd.1))
  have hBBl : BB.1.length < 900000 := by have := blockK_len d.body P.1 ⟨P.2.dl, N.2⟩; rw [hBB, hPl] at this; omega
  clear hm2 hrest hk hlt
  refine TS.seq (TS.seq (TS.of [1] fun Q hQ => ?_))
  simp only [go_sem, Nat.reduceEqDiff, Nat.reduceBEq, Int.reduceToNat, Int.reduceLT, Int.reduceLE, Int.reduceEq, Nat.reduceLeDiff, Nat.reduceLT, Nat.reduceMul, Nat.reduceAdd, String.reduceEq]
  refine hQ .normal _ ?_; clear hQ Q
  refine TS.block (TS.loop (α := Nat × Int × (Int × Int)) (fun x => [(1, .ref (encD d)), (2, .ptr m.objs.length 0), (5, .ptr B.length 0), (6, slV BB.1), (8, ii x.2.1), (10, ii x.1)]) (fun x => ⟨FM B (slD b.length BB.2.dl) x.2.2 [], rowsK b BB.2.dl.length X2⟩) (fun x => x.1 ≤ d.give.length ∧ needsK 1 (d.give.drop x.1) BB.1 x.2.1 x.2.2 = G) (fun x => d.give.length - x.1) (0, N.1, BB.2.ft) (by simp) ⟨by simp [Has, upd_apply, j1, j2, j5, j8], rfl, ⟨Nat.zero_le _, hG⟩⟩ ?_)
  clear jk j1 j2 j5 j6 j8 st
  rintro ⟨k, n, ft⟩ st hH hm2 ⟨hk, hrest⟩
  dsimp only at hH hm2 hk hrest
  simp only [Has, List.mem_cons, List.not_mem_nil, or_false, forall_eq_or_imp, forall_eq] at hH; obtain ⟨j1, j2, j5, j6, j8, jk⟩ := hH
  by_cases hlt : k < d.give.length
  · obtain ⟨x, hx⟩ : ∃ x, d.give[k]? = some x := ⟨_, List.getElem?_eq_getElem hlt⟩
    have hdr : d.give.drop k = x :: d.give.drop (k + 1) := by rw [List.drop_eq_getElem_cons hlt]; congr 1; exact Option.some.inj ((List.getElem?_eq_getElem hlt).symm.trans hx)
    have hat := encEs_at hx
    have hlt5 : k * 5 < (encEs d.give).length := by rw [encEs_length]; omega
    have hw := wrap_succ hlt (by omega)
    have hszx := szE_at hx
    rw [hdr, needsK] at hrest
    have hs := fun no => slD_np (b := b) (X := X2) (dl := BB.2.dl) no
    have hn := (need_sim x 1 BB.1 ft (by omega) (by omega)).mem B [] (rowsK b BB.2.dl.length X2) (slD b.length BB.2.dl) hs
    have hsz := fun m => size_sim m (szE x) (by omega) x (Nat.le_refl _)
    rw [encE_eq] at hn hsz
    generalize needE x 1 BB.1 ft = ft' at hn hrest
    refine TS.of [1] fun Q hQ => ?_
    simp only [go_sem, Nat.reduceEqDiff, Nat.reduceBEq, Int.reduceToNat, Int.reduceLT, Int.reduceLE, Int.reduceEq, Nat.reduceLeDiff, Nat.reduceLT, Nat.reduceMul, Nat.reduceAdd, String.reduceEq, j1, j2, j5, j6, j8, jk, hm2, encD, hlt, hat, hlt5]
    refine cal_eq hn ?_
    simp only [go_sem, Nat.reduceEqDiff, Nat.reduceBEq, Int.reduceToNat, Int.reduceLT, Int.reduceLE, Int.reduceEq, Nat.reduceLeDiff, Nat.reduceLT, Nat.reduceMul, Nat.reduceAdd, String.reduceEq, j1, j2, j5, j6, j8, jk, encD, hlt, hat, hlt5]
    refine cal_eq (hsz _) ?_
    simp only [go_sem, Nat.reduceEqDiff, Nat.reduceBEq, Int.reduceToNat, Int.reduceLT, Int.reduceLE, Int.reduceEq, Nat.reduceLeDiff, Nat.reduceLT, Nat.reduceMul, Nat.reduceAdd, String.reduceEq, j1, j2, j5, j6, j8, jk, hw]
    refine hQ .normal _ ?_; clear hQ Q
    refine ⟨_, _, (k + 1, IntKind.i64.wrap (n + sizeE x), ft'), DropW.fm0 B _ ft ft' [] _ hs, ?_, ⟨hlt, hrest⟩, by dsimp only; omega⟩
    dsimp only
    simp only [List.mem_cons, List.not_mem_nil, or_false, forall_eq_or_imp, forall_eq, IV.np, np_sh, npV]
    simp [upd_apply, j1, j2, j5, j6, np_sh, npS, npEs, npTs, npL, IV.np, encD] <;> omega
  refine TS.of [1] fun Q hQ => ?_
  simp only [go_sem, Nat.reduceEqDiff, Nat.reduceBEq, Int.reduceToNat, Int.reduceLT, Int.reduceLE, Int.reduceEq, Nat.reduceLeDiff, Nat.reduceLT, Nat.reduceMul, Nat.reduceAdd, String.reduceEq, j1, j2, j5, j6, j8, jk, hm2, encD, hlt]
  refine hQ (.exit 4) _ ?_; clear hQ Q
  rw [List.drop_eq_nil_of_le (by omega), needsK] at hrest
  have hrest2 : (n, ft) = G := hrest
  have hn2 : n = G.1 := by rw [← hrest2]
  have hf2 : ft = G.2 := by rw [← hrest2]
  subst hn2 hf2
  obtain ⟨rs, hrs⟩ : ∃ rs, rowsK b BB.2.dl.length X2 = m.rows ++ rs := by
    rw [hb]; unfold rowsK; split
    · exact ⟨[], by simp⟩
    · exact ⟨_, rfl⟩
  have hrF : rF d = if 2048 < G.1 then failF G.2 11 0 else G.2 := by rw [rF, ← hGd]
  have hs := fun no => slD_np (b := b) (X := X2) (dl := BB.2.dl) no
  refine TS.seq (TS.mono (Q := fun e s => e = .normal ∧ (s.t 1 = .ref (encD d) ∧ s.t 2 = .ptr m.objs.length 0 ∧ s.t 5 = .ptr B.length 0 ∧ s.t 8 = ii G.1) ∧ s.m = ⟨FM B (slD b.length BB.2.dl) (rF d) [], rowsK b BB.2.dl.length X2⟩) ?_ ?_)
  · by_cases hbig : 2048 < G.1
    · rw [if_pos hbig] at hrF
      refine TS.of [1] fun Q hQ => ?_
      simp only [go_sem, Nat.reduceEqDiff, Nat.reduceBEq, Int.reduceToNat, Int.reduceLT, Int.reduceLE, Int.reduceEq, Nat.reduceLeDiff, Nat.reduceLT, Nat.reduceMul, Nat.reduceAdd, String.reduceEq, j1, j2, j5, j8, hm2, hbig]
      refine cal_eq ((rfail_sim G.2 11 0).mem B [] _ _ hs) ?_
      simp only [go_sem, Nat.reduceEqDiff, Nat.reduceBEq, Int.reduceToNat, Int.reduceLT, Int.reduceLE, Int.reduceEq, Nat.reduceLeDiff, Nat.reduceLT, Nat.reduceMul, Nat.reduceAdd, String.reduceEq]
      refine hQ .normal _ ?_; clear hQ Q
      exact ⟨rfl, by simp [upd_apply, j1, j2, j5, j8], by rw [hrF]⟩
    · rw [if_neg hbig] at hrF
      refine TS.of [1] fun Q hQ => ?_
      simp only [go_sem, Nat.reduceEqDiff, Nat.reduceBEq, Int.reduceToNat, Int.reduceLT, Int.reduceLE, Int.reduceEq, Nat.reduceLeDiff, Nat.reduceLT, Nat.reduceMul, Nat.reduceAdd, String.reduceEq, j1, j2, j5, j8, hm2, hbig]
      refine hQ .normal _ ?_; clear hQ Q
      exact ⟨rfl, by simp [upd_apply, j1, j2, j5, j8], by rw [hrF]⟩
  clear j1 j2 j5 j6 j8 jk hm2 hrF hrest hrest2 hk hlt
  rintro e s ⟨rfl, ⟨i1, i2, i5, i8⟩, hm⟩
  obtain ⟨dl, hdl⟩ : ∃ dl, dl = BB.2.dl := ⟨_, rfl⟩
  obtain ⟨F, hF⟩ : ∃ F, F = rF d := ⟨_, rfl⟩
  have hFM : FM B (slD b.length dl) F [] = m.objs ++ [.cells (encI Info0), .cells (cellsF (slD b.length dl) F)] := by simp [FM, hB]
  rw [hrs, ← hdl, ← hF, hFM] at hm
  rw [hBl] at i5
  have hne : ¬ (m.objs.length + 1 = m.objs.length) := by omega
  by_cases hf0 : F.1 = 0
  · have hv : rcheck d = (⟨rMode d, G.1, dl.length, !hasTs 2 2 d.body && !readsTs d.body⟩, 0, 0) := by
      rw [rcheck, if_neg h8, if_neg (by rw [← hF]; simpa using hf0), ← hGd, ← hBBd, hdl]
    rw [hv, rMode]
    have c22 := fun m => hasS_sim 2 2 (szt d.body) (by omega) d.body (Nat.le_refl _) m
    have c25 := fun m => hasS_sim 2 5 (szt d.body) (by omega) d.body (Nat.le_refl _) m
    have c55 := fun m => hasS_sim 5 5 (szt d.body) (by omega) d.body (Nat.le_refl _) m
    have crd := fun m => reads_sim (szt d.body) (by omega) d.body (Nat.le_refl _) m
    have ccn := fun m => cells_sim m (szs d.needs) (by omega) d.needs (Nat.le_refl _)
    have ccg := fun m => cells_sim m (szs d.give) (by omega) d.give (Nat.le_refl _)
    generalize hasTs 2 2 d.body = b22 at c22 ⊢
    generalize hasTs 2 5 d.body = b25 at c25 ⊢
    generalize hasTs 5 5 d.body = b55 at c55 ⊢
    generalize readsTs d.body = rd at crd ⊢
    generalize cells d.needs = cn at ccn ⊢
    generalize cells d.give = cg at ccg ⊢
    refine TS.seq (TS.of [1] fun Q hQ => ?_)
    simp only [go_sem, Nat.reduceEqDiff, Nat.reduceBEq, Int.reduceToNat, Int.reduceLT, Int.reduceLE, Int.reduceEq, Nat.reduceLeDiff, Nat.reduceLT, Nat.reduceMul, Nat.reduceAdd, String.reduceEq, i1, i2, i5, i8, hm, hf0]
    refine hQ .normal _ ?_; clear hQ Q
    refine TS.seq (TS.mono (Q := fun e s => e = .normal ∧ (s.t 1 = .ref (encD d) ∧ s.t 2 = .ptr m.objs.length 0 ∧ s.t 11 = .ptr (m.objs.length + 2) 0) ∧ s.m = ⟨m.objs ++ [.cells (encI Info0), .cells (cellsF (slD b.length dl) F), .cells (encI ⟨1, G.1, dl.length, !b22 && !rd⟩)], m.rows ++ rs⟩) ?_ ?_)
    · have hne2 : ¬ (m.objs.length = m.objs.length + 1) := by omega
      cases b22 with
      | true =>
        refine TS.of [1] fun Q hQ => ?_
        simp only [go_sem, Nat.reduceEqDiff, Nat.reduceBEq, Int.reduceToNat, Int.reduceLT, Int.reduceLE, Int.reduceEq, Nat.reduceLeDiff, Nat.reduceLT, Nat.reduceMul, Nat.reduceAdd, String.reduceEq, i1, i2, i5, i8, hm]
        refine drn_of ⟨[122, 127], [119], [m.objs.length + 1]⟩ [0, 0, 2, 6, 14, 30, 0, 64, 192, 448, 960, 1984, 4032, 8128, 16320, 32704, 65535, 0, 262143] (by kernel_rfl) ?_
        simp only [go_sem, Nat.reduceEqDiff, Nat.reduceBEq, Int.reduceToNat, Int.reduceLT, Int.reduceLE, Int.reduceEq, Nat.reduceLeDiff, Nat.reduceLT, Nat.reduceMul, Nat.reduceAdd, String.reduceEq, i1, i2, i5, i8, encD]
        refine cald_eqS c22 ?_
        simp only [go_sem, Nat.reduceEqDiff, Nat.reduceBEq, Int.reduceToNat, Int.reduceLT, Int.reduceLE, Int.reduceEq, Nat.reduceLeDiff, Nat.reduceLT, Nat.reduceMul, Nat.reduceAdd, String.reduceEq, i1, i2, i5, i8, encD]
        refine ⟨hne2, ?_⟩
        refine hQ .normal _ ?_; clear hQ Q
        exact ⟨rfl, by simp [upd_apply, i1, i2], rfl⟩
      | false =>
        refine TS.of [1] fun Q hQ => ?_
        simp only [go_sem, Nat.reduceEqDiff, Nat.reduceBEq, Int.reduceToNat, Int.reduceLT, Int.reduceLE, Int.reduceEq, Nat.reduceLeDiff, Nat.reduceLT, Nat.reduceMul, Nat.reduceAdd, String.reduceEq, i1, i2, i5, i8, hm]
        refine drn_of ⟨[122, 127], [119], [m.objs.length + 1]⟩ [0, 0, 2, 6, 14, 30, 0, 64, 192, 448, 960, 1984, 4032, 8128, 16320, 32704, 65535, 0, 262143] (by kernel_rfl) ?_
        simp only [go_sem, Nat.reduceEqDiff, Nat.reduceBEq, Int.reduceToNat, Int.reduceLT, Int.reduceLE, Int.reduceEq, Nat.reduceLeDiff, Nat.reduceLT, Nat.reduceMul, Nat.reduceAdd, String.reduceEq, i1, i2, i5, i8, encD]
        refine cald_eqS c22 ?_
        simp only [go_sem, Nat.reduceEqDiff, Nat.reduceBEq, Int.reduceToNat, Int.reduceLT, Int.reduceLE, Int.reduceEq, Nat.reduceLeDiff, Nat.reduceLT, Nat.reduceMul, Nat.reduceAdd, String.reduceEq, i1, i2, i5, i8, encD]
        refine cald_eqS crd ?_
        simp only [go_sem, Nat.reduceEqDiff, Nat.reduceBEq, Int.reduceToNat, Int.reduceLT, Int.reduceLE, Int.reduceEq, Nat.reduceLeDiff, Nat.reduceLT, Nat.reduceMul, Nat.reduceAdd, String.reduceEq, i1, i2, i5, i8, encD]
        refine ⟨hne2, ?_⟩
        refine hQ .normal _ ?_; clear hQ Q
        exact ⟨rfl, by simp [upd_apply, i1, i2], by cases rd <;> rfl⟩
    clear i1 i2 i5 i8 hm
    rintro e s ⟨rfl, ⟨i1, i2, i11⟩, hm⟩
    refine TS.seq (TS.mono (Q := fun e s => e = .normal ∧ (s.t 1 = .ref (encD d) ∧ s.t 2 = .ptr m.objs.length 0 ∧ s.t 11 = .ptr (m.objs.length + 2) 0 ∧ s.t 12 = bb (rd || (cn || cg))) ∧ s.m = ⟨m.objs ++ [.cells (encI Info0), .cells (cellsF (slD b.length dl) F), .cells (encI ⟨1, G.1, dl.length, !b22 && !rd⟩)], m.rows ++ rs⟩) ?_ ?_)
    · cases rd with
      | true =>
        refine TS.of [1] fun Q hQ => ?_
        simp only [go_sem, Nat.reduceEqDiff, Nat.reduceBEq, Int.reduceToNat, Int.reduceLT, Int.reduceLE, Int.reduceEq, Nat.reduceLeDiff, Nat.reduceLT, Nat.reduceMul, Nat.reduceAdd, String.reduceEq, i1, hm, encD]
        refine cal_eq (crd _) ?_
        simp only [go_sem, Nat.reduceEqDiff, Nat.reduceBEq, Int.reduceToNat, Int.reduceLT, Int.reduceLE, Int.reduceEq, Nat.reduceLeDiff, Nat.reduceLT, Nat.reduceMul, Nat.reduceAdd, String.reduceEq, i1, encD]
        refine hQ .normal _ ?_; clear hQ Q
        exact ⟨rfl, by simp [upd_apply, i1, i2, i11], by first | rfl | exact hm | (cases b22 <;> rfl)⟩
      | false =>
        cases cn with
        | true =>
          refine TS.of [1] fun Q hQ => ?_
          simp only [go_sem, Nat.reduceEqDiff, Nat.reduceBEq, Int.reduceToNat, Int.reduceLT, Int.reduceLE, Int.reduceEq, Nat.reduceLeDiff, Nat.reduceLT, Nat.reduceMul, Nat.reduceAdd, String.reduceEq, i1, hm, encD]
          refine cal_eq (crd _) ?_
          simp only [go_sem, Nat.reduceEqDiff, Nat.reduceBEq, Int.reduceToNat, Int.reduceLT, Int.reduceLE, Int.reduceEq, Nat.reduceLeDiff, Nat.reduceLT, Nat.reduceMul, Nat.reduceAdd, String.reduceEq, i1, encD]
          refine cal_eq (ccn _) ?_
          simp only [go_sem, Nat.reduceEqDiff, Nat.reduceBEq, Int.reduceToNat, Int.reduceLT, Int.reduceLE, Int.reduceEq, Nat.reduceLeDiff, Nat.reduceLT, Nat.reduceMul, Nat.reduceAdd, String.reduceEq, i1, encD]
          refine hQ .normal _ ?_; clear hQ Q
          exact ⟨rfl, by simp [upd_apply, i1, i2, i11], by first | rfl | exact hm | (cases b22 <;> rfl)⟩
        | false =>
          refine TS.of [1] fun Q hQ => ?_
          simp only [go_sem, Nat.reduceEqDiff, Nat.reduceBEq, Int.reduceToNat, Int.reduceLT, Int.reduceLE, Int.reduceEq, Nat.reduceLeDiff, Nat.reduceLT, Nat.reduceMul, Nat.reduceAdd, String.reduceEq, i1, hm, encD]
          refine cal_eq (crd _) ?_
          simp only [go_sem, Nat.reduceEqDiff, Nat.reduceBEq, Int.reduceToNat, Int.reduceLT, Int.reduceLE, Int.reduceEq, Nat.reduceLeDiff, Nat.reduceLT, Nat.reduceMul, Nat.reduceAdd, String.reduceEq, i1, encD]
          refine cal_eq (ccn _) ?_
          simp only [go_sem, Nat.reduceEqDiff, Nat.reduceBEq, Int.reduceToNat, Int.reduceLT, Int.reduceLE, Int.reduceEq, Nat.reduceLeDiff, Nat.reduceLT, Nat.reduceMul, Nat.reduceAdd, String.reduceEq, i1, encD]
          refine cal_eq (ccg _) ?_
          simp only [go_sem, Nat.reduceEqDiff, Nat.reduceBEq, Int.reduceToNat, Int.reduceLT, Int.reduceLE, Int.reduceEq, Nat.reduceLeDiff, Nat.reduceLT, Nat.reduceMul, Nat.reduceAdd, String.reduceEq, i1, encD]
          refine hQ .normal _ ?_; clear hQ Q
          exact ⟨rfl, by simp [upd_apply, i1, i2, i11], by first | rfl | exact hm | (cases b22 <;> rfl)⟩
    clear i1 i2 i11 hm
    rintro e s ⟨rfl, ⟨i1, i2, i11, i12⟩, hm⟩
    generalize hro : (rd || (cn || cg)) = ro at i12 ⊢
    generalize (!b22 && !rd) = tn at hm ⊢
    refine TS.seq (TS.mono (Q := fun e s => e = .normal ∧ (s.t 2 = .ptr m.objs.length 0 ∧ s.t 11 = .ptr (m.objs.length + 2) 0) ∧ s.m = ⟨m.objs ++ [.cells (encI Info0), .cells (cellsF (slD b.length dl) F), .cells (encI ⟨if b25 then (if !b22 && (!b55 && !ro) then 2 else 3) else 1, G.1, dl.length, tn⟩)], m.rows ++ rs⟩) ?_ ?_)
    · cases b25 with
      | false =>
        refine TS.of [1] fun Q hQ => ?_
        simp only [go_sem, Nat.reduceEqDiff, Nat.reduceBEq, Int.reduceToNat, Int.reduceLT, Int.reduceLE, Int.reduceEq, Nat.reduceLeDiff, Nat.reduceLT, Nat.reduceMul, Nat.reduceAdd, String.reduceEq, i1, hm, encD]
        refine cal_eq (c25 _) ?_
        simp only [go_sem, Nat.reduceEqDiff, Nat.reduceBEq, Int.reduceToNat, Int.reduceLT, Int.reduceLE, Int.reduceEq, Nat.reduceLeDiff, Nat.reduceLT, Nat.reduceMul, Nat.reduceAdd, String.reduceEq, i1, encD]
        refine hQ .normal _ ?_; clear hQ Q
        exact ⟨rfl, by simp [upd_apply, i2, i11], by first | rfl | exact hm | (cases b22 <;> rfl)⟩
      | true =>
        cases b22 with
        | true =>
          refine TS.of [1] fun Q hQ => ?_
          simp only [go_sem, Nat.reduceEqDiff, Nat.reduceBEq, Int.reduceToNat, Int.reduceLT, Int.reduceLE, Int.reduceEq, Nat.reduceLeDiff, Nat.reduceLT, Nat.reduceMul, Nat.reduceAdd, String.reduceEq, i1, i11, hm, encD]
          refine cal_eq (c25 _) ?_
          simp only [go_sem, Nat.reduceEqDiff, Nat.reduceBEq, Int.reduceToNat, Int.reduceLT, Int.reduceLE, Int.reduceEq, Nat.reduceLeDiff, Nat.reduceLT, Nat.reduceMul, Nat.reduceAdd, String.reduceEq, i1, i11, encD]
          refine cal_eq (c22 _) ?_
          simp only [go_sem, Nat.reduceEqDiff, Nat.reduceBEq, Int.reduceToNat, Int.reduceLT, Int.reduceLE, Int.reduceEq, Nat.reduceLeDiff, Nat.reduceLT, Nat.reduceMul, Nat.reduceAdd, String.reduceEq, i1, i11, i12, encD]
          refine hQ .normal _ ?_; clear hQ Q
          exact ⟨rfl, by simp [upd_apply, i2, i11], by first | rfl | exact hm | (cases b22 <;> rfl)⟩
        | false =>
          cases b55 with
          | true =>
            refine TS.of [1] fun Q hQ => ?_
            simp only [go_sem, Nat.reduceEqDiff, Nat.reduceBEq, Int.reduceToNat, Int.reduceLT, Int.reduceLE, Int.reduceEq, Nat.reduceLeDiff, Nat.reduceLT, Nat.reduceMul, Nat.reduceAdd, String.reduceEq, i1, i11, hm, encD]
            refine cal_eq (c25 _) ?_
            simp only [go_sem, Nat.reduceEqDiff, Nat.reduceBEq, Int.reduceToNat, Int.reduceLT, Int.reduceLE, Int.reduceEq, Nat.reduceLeDiff, Nat.reduceLT, Nat.reduceMul, Nat.reduceAdd, String.reduceEq, i1, i11, encD]
            refine cal_eq (c22 _) ?_
            simp only [go_sem, Nat.reduceEqDiff, Nat.reduceBEq, Int.reduceToNat, Int.reduceLT, Int.reduceLE, Int.reduceEq, Nat.reduceLeDiff, Nat.reduceLT, Nat.reduceMul, Nat.reduceAdd, String.reduceEq, i1, i11, i12, encD]
            refine cal_eq (c55 _) ?_
            simp only [go_sem, Nat.reduceEqDiff, Nat.reduceBEq, Int.reduceToNat, Int.reduceLT, Int.reduceLE, Int.reduceEq, Nat.reduceLeDiff, Nat.reduceLT, Nat.reduceMul, Nat.reduceAdd, String.reduceEq, i1, i11, i12, encD]
            refine hQ .normal _ ?_; clear hQ Q
            exact ⟨rfl, by simp [upd_apply, i2, i11], by first | rfl | exact hm | (cases b22 <;> rfl)⟩
          | false =>
            cases ro with
            | true =>
              refine TS.of [1] fun Q hQ => ?_
              simp only [go_sem, Nat.reduceEqDiff, Nat.reduceBEq, Int.reduceToNat, Int.reduceLT, Int.reduceLE, Int.reduceEq, Nat.reduceLeDiff, Nat.reduceLT, Nat.reduceMul, Nat.reduceAdd, String.reduceEq, i1, i11, hm, encD]
              refine cal_eq (c25 _) ?_
              simp only [go_sem, Nat.reduceEqDiff, Nat.reduceBEq, Int.reduceToNat, Int.reduceLT, Int.reduceLE, Int.reduceEq, Nat.reduceLeDiff, Nat.reduceLT, Nat.reduceMul, Nat.reduceAdd, String.reduceEq, i1, i11, encD]
              refine cal_eq (c22 _) ?_
              simp only [go_sem, Nat.reduceEqDiff, Nat.reduceBEq, Int.reduceToNat, Int.reduceLT, Int.reduceLE, Int.reduceEq, Nat.reduceLeDiff, Nat.reduceLT, Nat.reduceMul, Nat.reduceAdd, String.reduceEq, i1, i11, i12, encD]
              refine cal_eq (c55 _) ?_
              simp only [go_sem, Nat.reduceEqDiff, Nat.reduceBEq, Int.reduceToNat, Int.reduceLT, Int.reduceLE, Int.reduceEq, Nat.reduceLeDiff, Nat.reduceLT, Nat.reduceMul, Nat.reduceAdd, String.reduceEq, i1, i11, i12, encD]
              refine hQ .normal _ ?_; clear hQ Q
              exact ⟨rfl, by simp [upd_apply, i2, i11], by first | rfl | exact hm | (cases b22 <;> rfl)⟩
            | false =>
              refine TS.of [1] fun Q hQ => ?_
              simp only [go_sem, Nat.reduceEqDiff, Nat.reduceBEq, Int.reduceToNat, Int.reduceLT, Int.reduceLE, Int.reduceEq, Nat.reduceLeDiff, Nat.reduceLT, Nat.reduceMul, Nat.reduceAdd, String.reduceEq, i1, i11, hm, encD]
              refine cal_eq (c25 _) ?_
              simp only [go_sem, Nat.reduceEqDiff, Nat.reduceBEq, Int.reduceToNat, Int.reduceLT, Int.reduceLE, Int.reduceEq, Nat.reduceLeDiff, Nat.reduceLT, Nat.reduceMul, Nat.reduceAdd, String.reduceEq, i1, i11, encD]
              refine cal_eq (c22 _) ?_
              simp only [go_sem, Nat.reduceEqDiff, Nat.reduceBEq, Int.reduceToNat, Int.reduceLT, Int.reduceLE, Int.reduceEq, Nat.reduceLeDiff, Nat.reduceLT, Nat.reduceMul, Nat.reduceAdd, String.reduceEq, i1, i11, i12, encD]
              refine cal_eq (c55 _) ?_
              simp only [go_sem, Nat.reduceEqDiff, Nat.reduceBEq, Int.reduceToNat, Int.reduceLT, Int.reduceLE, Int.reduceEq, Nat.reduceLeDiff, Nat.reduceLT, Nat.reduceMul, Nat.reduceAdd, String.reduceEq, i1, i11, i12, encD]
              refine hQ .normal _ ?_; clear hQ Q
              exact ⟨rfl, by simp [upd_apply, i2, i11], by first | rfl | exact hm | (cases b22 <;> rfl)⟩
    clear i1 i2 i11 i12 hm
    rintro e s ⟨rfl, ⟨i2, i11⟩, hm⟩
    generalize (if b25 = true then (if (!b22 && (!b55 && !ro)) = true then 2 else 3) else 1 : Int) = md at hm ⊢
    refine TS.of [] fun Q hQ => ?_
    simp only [go_sem, Nat.reduceEqDiff, Nat.reduceBEq, Int.reduceToNat, Int.reduceLT, Int.reduceLE, Int.reduceEq, Nat.reduceLeDiff, Nat.reduceLT, Nat.reduceMul, Nat.reduceAdd, String.reduceEq, i2, i11, hm]
    refine hQ .ret _ ?_; clear hQ Q; refine post_ret _ _ (.tup [.agg (encI ⟨md, G.1, dl.length, tn⟩), ii 0, ii 0]) ?_ ?_ (DropW.tail [_, _, _] rs rfl) ⟨rfl, rfl⟩
    · simp only [go_sem, Nat.reduceEqDiff, Nat.reduceBEq, Int.reduceToNat, Int.reduceLT, Int.reduceLE, Int.reduceEq, Nat.reduceLeDiff, Nat.reduceLT, Nat.reduceMul, Nat.reduceAdd, String.reduceEq, i2, i11] <;> rfl
    · rfl
  · have hv : rcheck d = (Info0, F.1, F.2) := by
      rw [rcheck, if_neg h8, if_pos (by rw [← hF]; simpa using hf0), ← hF]
    rw [hv]
    refine TS.of [] fun Q hQ => ?_
    simp only [go_sem, Nat.reduceEqDiff, Nat.reduceBEq, Int.reduceToNat, Int.reduceLT, Int.reduceLE, Int.reduceEq, Nat.reduceLeDiff, Nat.reduceLT, Nat.reduceMul, Nat.reduceAdd, String.reduceEq, i1, i2, i5, i8, hm, hf0]
    refine drn_of ⟨[], [110, 114], [m.objs.length + 1]⟩ [0, 0, 2, 6, 14, 0, 32, 96, 224, 1, 543, 2047] (by kernel_rfl) ?_
    simp only [go_sem, Nat.reduceEqDiff, Nat.reduceBEq, Int.reduceToNat, Int.reduceLT, Int.reduceLE, Int.reduceEq, Nat.reduceLeDiff, Nat.reduceLT, Nat.reduceMul, Nat.reduceAdd, String.reduceEq, i1, i2, i5, i8, hf0, hne]
    refine hQ .ret _ ?_; clear hQ Q; refine post_ret _ _ (.tup [.agg (encI Info0), ii F.1, ii F.2]) ?_ ?_ (DropW.tail [_, _] rs rfl) ⟨rfl, rfl⟩
    · simp only [go_sem, Nat.reduceEqDiff, Nat.reduceBEq, Int.reduceToNat, Int.reduceLT, Int.reduceLE, Int.reduceEq, Nat.reduceLeDiff, Nat.reduceLT, Nat.reduceMul, Nat.reduceAdd, String.reduceEq, i2] <;> rfl
    · rfl
end Go.Proofs.Ytphjldhdnmoolaa.A
/- The walks of some functions over the abstract machine. -/
namespace Go.Proofs.Ytphjldhdnmoolaa.A
open Go
/-! the checker and the document's answer: names -/
theorem look_app (s : Bytes) : ∀ (E L : Env), look s (E ++ L) = match look s E with | some v => some v | none => look s L
  | [], L => rfl
  | p :: E, L => by
    rw [List.cons_append, look, look]
    by_cases h : p.1 = s
    · rw [if_pos h, if_pos h]
    · rw [if_neg h, if_neg h]; exact look_app s E L
theorem getM_cat (s : Bytes) : ∀ (l m : List Ent), getM s (l ++ m) = match getM s l with | some v => some v | none => getM s m
  | [], m => rfl
  | e :: l, m => by
    rw [List.cons_append, getM, getM]
    by_cases h : s = e.1
    · rw [if_pos h, if_pos h]
    · rw [if_neg h, if_neg h]; exact getM_cat s l m
theorem look_none {s : Bytes} : ∀ {E : Env}, look s E = none ↔ s ∉ E.map (·.1)
  | [] => by simp [look]
  | p :: E => by
    rw [look]
    by_cases h : p.1 = s
    · rw [if_pos h]; simp [h]
    · rw [if_neg h, look_none]; simp [Ne.symm h, eq_comm (a := s)]
theorem getM_none {s : Bytes} : ∀ {l : List Ent}, getM s l = none ↔ s ∉ l.map (·.1)
  | [] => by simp [getM]
  | e :: l => by
    rw [getM]
    by_cases h : s = e.1
    · rw [if_pos h]; simp [h]
    · rw [if_neg h, getM_none]; simp [h]
theorem look_mem {s : Bytes} {v : Int} : ∀ {E : Env}, look s E = some v → (s, v) ∈ E
  | p :: E, h => by
    rw [look] at h
    by_cases hp : p.1 = s
    · rw [if_pos hp] at h; cases h; subst hp; exact List.mem_cons_self ..
    · rw [if_neg hp] at h; exact List.mem_cons_of_mem _ (look_mem h)
theorem look_of {s : Bytes} {v : Int} : ∀ {E : Env}, (E.map (·.1)).Nodup → (s, v) ∈ E → look s E = some v
  | p :: E, hn, h => by
    rw [look]
    rw [List.map_cons, List.nodup_cons] at hn
    rcases List.mem_cons.1 h with rfl | h
    · rw [if_pos rfl]
    · have : p.1 ≠ s := fun e => hn.1 (e ▸ List.mem_map.2 ⟨(s, v), h, rfl⟩)
      rw [if_neg this]; exact look_of hn.2 h
theorem delM_gx {s x : Bytes} : ∀ {l : List Ent}, (l.map (·.1)).Nodup → getM x (delM s l) = if x = s then none else getM x l
  | [], _ => by simp [delM, getM]
  | e :: l, hn => by
    rw [List.map_cons, List.nodup_cons] at hn
    rw [delM]
    by_cases h : s = e.1
    · rw [if_pos h]
      by_cases hx : x = s
      · rw [if_pos hx, getM_none, hx, h]; exact hn.1
      · rw [if_neg hx, getM, if_neg (by rw [← h]; exact hx)]
    · rw [if_neg h, getM, getM]
      by_cases hx : x = e.1
      · rw [if_pos hx, if_pos hx, if_neg (by rw [hx]; exact Ne.symm h)]
      · rw [if_neg hx, if_neg hx]; exact delM_gx hn.2
theorem delM_nodup {s : Bytes} : ∀ {l : List Ent}, (l.map (·.1)).Nodup → ((delM s l).map (·.1)).Nodup
  | [], h => h
  | e :: l, hn => by
    rw [List.map_cons, List.nodup_cons] at hn
    rw [delM]
    by_cases h : s = e.1
    · rw [if_pos h]; exact hn.2
    · rw [if_neg h, List.map_cons, List.nodup_cons]
      refine ⟨fun hm => hn.1 ?_, delM_nodup hn.2⟩
      have : getM e.1 (delM s l) ≠ none := fun h2 => (getM_none.1 h2) hm
      rw [delM_gx hn.2, if_neg (Ne.symm h)] at this
      exact Classical.byContradiction fun h3 => this (getM_none.2 h3)
structure Sy (cs : CS) (E : Env) (S : KS) : Prop where
  ok : cs.ok
  ft : cs.ft = none
  sf : S.ft = (0, 0)
  us : cs.us.map (·.1) = S.dl
  kn : ∀ s, getM s cs.kn = look s E
  nd : (cs.kn.map (·.1)).Nodup
  ne : (E.map (·.1)).Nodup
  sub : ∀ p ∈ E, p.1 ∈ S.dl
  ut : ∀ p ∈ E, getM p.1 cs.us = some p.2
theorem Sy.oke {cs : CS} {E : Env} {S : KS} (h : Sy cs E S) : OkE cs E := ⟨h.ft, h.kn, fun s v hv => by
  rw [← h.kn] at hv
  obtain ⟨e, h1, h2, h3⟩ := getM_mem hv
  rw [← h3]; exact h.ok.kpos e h1⟩
def Fa (cs : CS) (S : KS) : Prop := ∃ c a, c ≠ 0 ∧ cs.ft = some (c, a) ∧ S.ft = (c, a)
theorem memB_us {cs : CS} {S : KS} (ok : cs.ok) (us : cs.us.map (·.1) = S.dl) (n : Bytes) : (0 < (getM n cs.us).getD 0) ↔ memB n S.dl = true := by
  rw [memB_iff, ← us]
  constructor
  · intro h
    exact Classical.byContradiction fun h2 => by rw [getM_none.2 h2] at h; exact absurd h (by decide)
  · intro h
    cases hg : getM n cs.us with
    | none => exact absurd h (getM_none.1 hg)
    | some v =>
      obtain ⟨e, h1, h2, h3⟩ := getM_mem hg
      have := ok.pos e h1
      simp only [Option.getD_some]; omega
theorem declare_eq {cs : CS} {E : Env} {S : KS} (h : Sy cs E S) (name : Bytes) (kind at_ : Int) (hk : 0 < kind) :
    Fa (cs.declare name kind at_) (S.declare name at_) ∨ (cs.declare name kind at_ = { cs with us := cs.us ++ [(name, kind, cs.uc)], uc := cs.uc + 1, kn := cs.kn ++ [(name, kind, cs.kc)], kc := cs.kc + 1 } ∧ Sy (cs.declare name kind at_) (E ++ [(name, kind)]) (S.declare name at_) ∧ name ∉ S.dl) := by
  have hm := memB_us h.ok h.us name
  have hl : cs.us.length = S.dl.length := by rw [← h.us, List.length_map]
  by_cases h1 : memB name S.dl = true
  · left
    refine ⟨9, at_, by decide, ?_, ?_⟩
    · unfold CS.declare; rw [h.ft]; rw [if_neg (by simp), if_pos (hm.2 h1), fail_none h.ft]
    · unfold KS.declare; rw [if_pos h1, h.sf]; exact failF_0 _ _
  · have h1' : ¬ 0 < (getM name cs.us).getD 0 := fun x => h1 (hm.1 x)
    by_cases h2 : 16 ≤ S.dl.length
    · left
      refine ⟨15, at_, by decide, ?_, ?_⟩
      · unfold CS.declare; rw [h.ft]; rw [if_neg (by simp), if_neg h1', if_pos (by omega), fail_none h.ft]
      · unfold KS.declare; rw [if_neg h1, if_pos h2, h.sf]; exact failF_0 _ _
    · right
      have hc : cs.declare name kind at_ = { cs with us := cs.us ++ [(name, kind, cs.uc)], uc := cs.uc + 1, kn := cs.kn ++ [(name, kind, cs.kc)], kc := cs.kc + 1 } := by
        unfold CS.declare; rw [h.ft]; rw [if_neg (by simp), if_neg h1', if_neg (by omega)]
      have hs : S.declare name at_ = { S with dl := S.dl ++ [name] } := by unfold KS.declare; rw [if_neg h1, if_neg h2]
      have hno : name ∉ S.dl := fun x => h1 (memB_iff.2 x)
      obtain ⟨ha1, ha2⟩ := h.ok.absent h1'
      refine ⟨hc, ?_, hno⟩
      have hok : (cs.declare name kind at_).ok := by
        exact h.ok.declare name (fun _ => hk) at_
      rw [hs]
      refine ⟨hok, ?_, h.sf, ?_, ?_, ?_, ?_, ?_, ?_⟩
      all_goals (first | rw [hc] | skip)
      · exact h.ft
      · simp [h.us]
      · intro s
        dsimp only
        rw [getM_cat, look_app, h.kn s]
        cases look s E with
        | some v => rfl
        | none =>
          simp only [getM, look]
          by_cases hh : s = name
          · simp [hh]
          · simp [hh, show ¬ name = s from fun e => hh e.symm]
      · dsimp only
        rw [List.map_append, List.nodup_append]
        exact ⟨h.nd, by simp, by intro a ha b hb e; simp at hb; subst hb; exact (getM_none.1 ha2) (e ▸ ha)⟩
      · rw [List.map_append, List.nodup_append]
        refine ⟨h.ne, by simp, ?_⟩
        intro a ha b hb e
        simp at hb; subst hb
        obtain ⟨p, hp, rfl⟩ := List.mem_map.1 ha
        exact hno (e ▸ h.sub _ hp)
      · intro p hp
        rcases List.mem_append.1 hp with hp | hp
        · exact List.mem_append_left _ (h.sub p hp)
        · simp at hp; subst hp; simp
      · intro p hp
        dsimp only
        rw [getM_cat]
        rcases List.mem_append.1 hp with hp | hp
        · rw [h.ut p hp]
        · simp at hp; subst hp; rw [ha1]; simp [getM]
end Go.Proofs.Ytphjldhdnmoolaa.A
/- The walks of some functions over the abstract machine. -/
namespace Go.Proofs.Ytphjldhdnmoolaa.A
open Go
/-! the checker and the document's answer: statements -/
theorem declare_fts {cs : CS} {p : Int × Int} (h : cs.ft = some p) (n : Bytes) (k a : Int) : cs.declare n k a = cs := by unfold CS.declare; rw [h]; rfl
theorem Kdeclare_ft {S : KS} (h : S.ft.1 ≠ 0) (n : Bytes) (a : Int) : (S.declare n a).ft = S.ft := by
  unfold KS.declare
  split
  · exact failF_ne h _ _
  · split
    · exact failF_ne h _ _
    · rfl
theorem changes_ft (cs : CS) (k : Int) : (cs.changes k).ft = cs.ft := by unfold CS.changes; dsimp only; split <;> rfl
theorem dels_same : ∀ (l : List Bytes) (cs : CS), cs.dels l = { cs with kn := (cs.dels l).kn }
  | [], cs => rfl
  | s :: l, cs => by rw [CS.dels]; exact (dels_same l { cs with kn := delM s cs.kn }).trans rfl
theorem dels_get : ∀ (l : List Bytes) (cs : CS), (cs.kn.map (·.1)).Nodup → ((cs.dels l).kn.map (·.1)).Nodup ∧ ∀ x, (x ∈ l → getM x (cs.dels l).kn = none) ∧ (x ∉ l → getM x (cs.dels l).kn = getM x cs.kn)
  | [], cs, h => ⟨h, fun x => ⟨fun h => (List.not_mem_nil h).elim, fun _ => rfl⟩⟩
  | s :: l, cs, h => by
    rw [CS.dels]
    have ih := dels_get l { cs with kn := delM s cs.kn } (delM_nodup h)
    refine ⟨ih.1, fun x => ⟨fun hm => ?_, fun hm => ?_⟩⟩
    · by_cases h1 : x ∈ l
      · exact (ih.2 x).1 h1
      · rw [(ih.2 x).2 h1]
        dsimp only
        rcases List.mem_cons.1 hm with h2 | h2
        · rw [delM_gx h, if_pos h2]
        · exact absurd h2 h1
    · rw [(ih.2 x).2 fun h1 => hm (List.mem_cons_of_mem _ h1)]
      dsimp only
      rw [delM_gx h, if_neg fun h2 => hm (by rw [h2]; exact List.mem_cons_self ..)]
theorem clet_ft {p : Int × Int} : ∀ (l : List Expr) (k n : Int) (cs : CS), cs.ft = some p → (clet l k n cs).2.2.ft = some p
  | [], k, n, cs, h => h
  | e :: l, k, n, cs, h => by rw [clet]; exact clet_ft l _ _ _ (cexpr_ft e cs h)
mutual
theorem cstmt_ft {p : Int × Int} : ∀ (s : Stmt) (cs : CS), cs.ft = some p → (cstmt s cs).2.ft = some p
  | .mk k s x n b e q, cs, h => by
    unfold cstmt
    split
    · rw [declare_fts (clet_ft x 0 0 cs h)]; exact clet_ft x 0 0 cs h
    · split
      · exact cloop_ft e [] 0 _ (cloop_ft b [] 0 _ (cargs_ft x 2 cs h))
      · split
        · rw [declare_fts h]
          split
          · rw [fail_some h]; exact h
          · exact cloop_ft b [s] 0 _ h
        · exact cargs_ft x 1 _ (by rw [changes_ft]; exact h)
theorem cloop_ft {p : Int × Int} : ∀ (l : List Stmt) (also : List Bytes) (n : Int) (cs : CS), cs.ft = some p → (cloop l also n cs).2.ft = some p
  | [], also, n, cs, h => by rw [cloop]; dsimp only; rw [dels_same]; exact h
  | s :: l, also, n, cs, h => by
    unfold cloop
    have h1 := cstmt_ft s cs h
    split
    · exact h1
    · exact cloop_ft l _ _ _ h1
end
mutual
theorem stmtK_ft {st : Int × Int} (hn : st.1 ≠ 0) : ∀ (s : Stmt) (E : Env) (S : KS), S.ft = st → (stmtK s E S).2.ft = st
  | .mk k s x n b e q, E, S, h => by
    have h0 : S.ft.1 ≠ 0 := by rw [h]; exact hn
    unfold stmtK
    split
    · dsimp only
      rw [Kdeclare_ft]
      · rw [kindE_ft E h0]; exact h
      · dsimp only; rw [kindE_ft E h0]; exact h0
    · split
      · exact blockK_ft hn e E _ (blockK_ft hn b E _ (by dsimp only; rw [needE_ft E h0]; exact h))
      · split
        · have hd := Kdeclare_ft h0 s q
          refine blockK_ft hn b _ _ ?_
          split
          · dsimp only; rw [failF_ne (by rw [hd]; exact h0), hd]; exact h
          · rw [hd]; exact h
        · dsimp only
          rw [needE_ft E h0, needE_ft E h0]; exact h
theorem blockK_ft {st : Int × Int} (hn : st.1 ≠ 0) : ∀ (l : List Stmt) (E : Env) (S : KS), S.ft = st → (blockK l E S).2.ft = st
  | [], E, S, h => h
  | s :: l, E, S, h => by rw [blockK]; exact blockK_ft hn l _ _ (stmtK_ft hn s E S h)
end
theorem Fa.block {cs : CS} {S : KS} (h : Fa cs S) (l : List Stmt) (also : List Bytes) (n : Int) (E : Env) : Fa (cloop l also n cs).2 (blockK l E S).2 := by
  obtain ⟨c, a, hc, h1, h2⟩ := h
  exact ⟨c, a, hc, cloop_ft l also n cs h1, blockK_ft (st := (c, a)) hc l E S h2⟩
/-! what a statement leaves -/
def mdK (k : Int) : Int := if k = 3 ∨ k = 4 then 2 else if k = 2 ∨ k = 5 then 3 else 0
mutual
def mdT : Stmt → Int
  | .mk k _ _ _ b e _ => max (mdK k) (max (mdTs b) (mdTs e))
def mdTs : List Stmt → Int
  | [] => 0
  | s :: l => max (mdT s) (mdTs l)
end
structure Aft (a b : CS) (r : Bool) (m : Int) (t : Bool) : Prop where
  rd : b.rd = (a.rd || r)
  m0 : 0 ≤ m
  md : 0 ≤ a.md → b.md = max a.md m
  tn : b.tn = (a.tn && !t)
theorem Aft.trans {a b c : CS} {r r' : Bool} {m m' : Int} {t t' : Bool} (h : Aft a b r m t) (g : Aft b c r' m' t') : Aft a c (r || r') (max m m') (t || t') := by
  have h0 := h.m0
  refine ⟨by rw [g.rd, h.rd, Bool.or_assoc], by omega, fun h1 => ?_, by rw [g.tn, h.tn, Bool.and_assoc, Bool.not_or]⟩
  have h2 := h.md h1
  have h3 := g.md (by omega)
  omega
theorem Aft.same {a b : CS} (h1 : b.rd = a.rd) (h2 : b.md = a.md) (h3 : b.tn = a.tn) : Aft a b false 0 false := ⟨by simp [h1], by omega, fun h => by omega, by simp [h3]⟩
theorem Aft.reads {a b : CS} {r : Bool} (h1 : b.rd = (a.rd || r)) (h2 : b.md = a.md) (h3 : b.tn = a.tn) : Aft a b r 0 false := ⟨h1, by omega, fun h => by omega, by simp [h3]⟩
theorem Aft.changes (a : CS) {k : Int} (h1 : 2 ≤ k) (h2 : k ≤ 5) : Aft a (a.changes k) false (mdK k) (decide (k = 2)) := by
  unfold CS.changes mdK
  dsimp only
  by_cases h : k = 2
  · subst h
    refine ⟨by simp, by simp, fun h => ?_, by simp⟩
    simp; split <;> omega
  · rw [if_neg h]
    refine ⟨by simp, by split <;> (try split) <;> omega, fun h0 => ?_, by simp [h]⟩
    dsimp only
    by_cases h3 : k = 3 ∨ k = 4
    · simp only [if_pos h3]; split <;> omega
    · have h5 : k = 2 ∨ k = 5 := by omega
      simp only [if_neg h3, if_pos h5]; split <;> omega
theorem Aft.eq {a b : CS} {r r' : Bool} {m m' : Int} {t t' : Bool} (h : Aft a b r m t) (h1 : r = r') (h2 : m = m') (h3 : t = t') : Aft a b r' m' t' := by subst h1 h2 h3; exact h
def Rm (c r : Int) : Prop := (c = r ∧ 0 ≤ c) ∨ (2049 ≤ c ∧ 2049 ≤ r)
def lets : List Stmt → List Bytes
  | [] => []
  | s :: l => if s.k = 1 then s.s :: lets l else lets l
theorem Sy.rd {cs : CS} {E : Env} {S : KS} (h : Sy cs E S) (b : Bool) : Sy { cs with rd := b } E S := ⟨⟨h.ok.kb, h.ok.ub, h.ok.pos, h.ok.sub, h.ok.kpos, h.ok.ul⟩, h.ft, h.sf, h.us, h.kn, h.nd, h.ne, h.sub, h.ut⟩
theorem Sy.changes {cs : CS} {E : Env} {S : KS} (h : Sy cs E S) (k : Int) : Sy (cs.changes k) E S := by
  have ho := h.ok.names (names_changes cs k)
  have hn := names_changes cs k
  refine ⟨ho, by rw [changes_ft]; exact h.ft, h.sf, by rw [hn.2.2.1]; exact h.us, by rw [hn.1]; exact h.kn, by rw [hn.1]; exact h.nd, h.ne, h.sub, by rw [hn.2.2.1]; exact h.ut⟩
theorem Sy.st {cs : CS} {E : Env} {S : KS} (h : Sy cs E S) {ft : Int × Int} (hf : ft = (0, 0)) : Sy cs E ⟨S.dl, ft⟩ := ⟨h.ok, h.ft, hf, h.us, h.kn, h.nd, h.ne, h.sub, h.ut⟩
theorem want_same {e : Expr} (hf : fitE e) {E : Env} {cs : CS} (h : OkE cs E) {w : Int} : ((cwant e w cs).2 = { cs with rd := cs.rd || cellsE e } ∧ needE e w E (0, 0) = (0, 0)) ∨ ∃ c a, c ≠ 0 ∧ (cwant e w cs).2.ft = some (c, a) ∧ needE e w E (0, 0) = (c, a) := by
  unfold cwant needE
  dsimp only
  rcases expr_eq hf h with ⟨h1, h2, h3, h4⟩ | ⟨c, a, hc, h1, h2⟩
  · rw [h1, h2, h3]
    by_cases ht : (cexpr e cs).1 = w
    · rw [if_pos ht, if_pos ht]; exact .inl ⟨rfl, rfl⟩
    · rw [if_neg ht, if_neg ht, failF_0]
      exact .inr ⟨10, e.p, by decide, fail_none_ft (cs := { cs with rd := _ }) (by exact h.ft) _ _, rfl⟩
  · rw [h2]
    refine .inr ⟨c, a, hc, ?_, ?_⟩
    · split
      · exact h1
      · rw [fail_some h1]; exact h1
    · split
      · rfl
      · exact failF_ne hc _ _
theorem Rm.loop {n c r : Int} (h : Rm c r) (h0 : 0 ≤ n) (hn : n ≤ 64) : Rm (1 + n * (if 2049 < 1 + c then 2049 else 1 + c)) (1 + n * (1 + r)) := by
  unfold Rm at h ⊢
  rcases h with ⟨rfl, h⟩ | ⟨h1, h2⟩
  · by_cases hc : 2049 < 1 + c
    · rw [if_pos hc]
      by_cases hz : n = 0
      · subst hz; left; omega
      · right
        have h3 : 1 * 2049 ≤ n * 2049 := Int.mul_le_mul_of_nonneg_right (by omega) (by omega)
        have h4 : n * 2049 ≤ n * (1 + c) := Int.mul_le_mul_of_nonneg_left (by omega) h0
        omega
    · rw [if_neg hc]
      left
      have h3 : 0 ≤ n * (1 + c) := Int.mul_nonneg h0 (by omega)
      exact ⟨rfl, by omega⟩
  · by_cases hz : n = 0
    · subst hz; left; omega
    · right
      rw [if_pos (by omega)]
      have h3 : 1 * 2049 ≤ n * 2049 := Int.mul_le_mul_of_nonneg_right (by omega) (by omega)
      have h4 : n * 2049 ≤ n * (1 + r) := Int.mul_le_mul_of_nonneg_left (by omega) h0
      omega
end Go.Proofs.Ytphjldhdnmoolaa.A
/- The walks of some functions over the abstract machine. -/
namespace Go.Proofs.Ytphjldhdnmoolaa.A
open Go
/-! the checker and the document's answer: blocks -/
theorem Sy.dels {cs : CS} {E0 L : Env} {S : KS} (h : Sy cs (E0 ++ L) S) {also : List Bytes} (ha : L.map (·.1) = also) : Sy (cs.dels also) E0 S := by
  have hd := dels_get also cs h.nd
  have hne := h.ne
  rw [List.map_append, List.nodup_append] at hne
  have e := dels_same also cs
  refine ⟨h.ok.dels, ?_, h.sf, ?_, ?_, hd.1, hne.1, fun p hp => h.sub p (List.mem_append_left _ hp), fun p hp => ?_⟩
  · rw [e]; exact h.ft
  · rw [e]; exact h.us
  · intro s
    by_cases hs : s ∈ also
    · rw [(hd.2 s).1 hs]
      refine (look_none.2 fun hm => ?_).symm
      exact hne.2.2 s hm s (by rw [ha]; exact hs) rfl
    · rw [(hd.2 s).2 hs, h.kn s, look_app]
      have : look s L = none := look_none.2 (by rw [ha]; exact hs)
      rw [this]
      cases look s E0 <;> rfl
  · rw [e]; exact h.ut p (List.mem_append_left _ hp)
def StG (s : Stmt) (cs : CS) (E : Env) (S : KS) : Prop := ∃ L : Env, (stmtK s E S).1 = E ++ L ∧ L.map (·.1) = (if s.k = 1 then [s.s] else []) ∧ Sy (cstmt s cs).2 (E ++ L) (stmtK s E S).2 ∧ Aft cs (cstmt s cs).2 (readsT s) (mdT s) (hasT 2 2 s) ∧ Rm (cstmt s cs).1 (stepT s) ∧ (0 ≤ stepT s ∧ stepT s ≤ 137438953472)
def LpG (l : List Stmt) (also : List Bytes) (n r : Int) (cs : CS) (E0 L0 : Env) (S : KS) : Prop := ∃ L : Env, (blockK l (E0 ++ L0) S).1 = E0 ++ L0 ++ L ∧ L.map (·.1) = lets l ∧ Sy (cloop l also n cs).2 E0 (blockK l (E0 ++ L0) S).2 ∧ ((E0 ++ L0 ++ L).map (·.1)).Nodup ∧ (∀ p ∈ E0 ++ L0 ++ L, getM p.1 (cloop l also n cs).2.us = some p.2) ∧ Aft cs (cloop l also n cs).2 (readsTs l) (mdTs l) (hasTs 2 2 l) ∧ Rm (cloop l also n cs).1 (stepTs l r) ∧ (0 ≤ stepTs l r ∧ stepTs l r ≤ 1073741824)
theorem Rm.add {n c r q : Int} (h : Rm n r) (g : Rm c q) (hr : 0 ≤ r) (hq : 0 ≤ q) : Rm (n + c) (if 1073741824 < r + q then 1073741824 else r + q) := by
  unfold Rm at *
  split <;> omega
theorem fitTs_mem2 : True := trivial
set_option maxRecDepth 100000 in
set_option maxHeartbeats 4000000 in
mutual
theorem stmt_same : ∀ (s : Stmt), fitT s → fineT s → szT s < 900000 → ∀ (cs : CS) (E : Env) (S : KS), Sy cs E S → Fa (cstmt s cs).2 (stmtK s E S).2 ∨ StG s cs E S
  | .mk k s x n b e p, hfit, hfine, hsz, cs, E, S, hs => by
    obtain ⟨hx, hb, he, hn, hk⟩ := hfit
    have hfi := hfine
    unfold fineT at hfine
    obtain ⟨_, _, fb, fe⟩ := hfine
    have hsz2 : szs x + szt b + szt e + 1 < 900000 := hsz
    have hok := cstmt_ok (.mk k s x n b e p) cs hs.ok hfi
    have hse := sizeEs_bd x
    have hoke := hs.oke
    rcases hk with ⟨rfl, ⟨a, rfl⟩, rfl, rfl⟩ | ⟨⟨kk2, kk5⟩, ⟨a, c, rfl⟩, rfl, rfl⟩ | ⟨rfl, a, rfl⟩ | ⟨hk, rfl, rfl⟩
    · -- let
      have hfa : fitE a := hx.1
      have e1 : (cstmt (.mk 1 s [a] n [] [] p) cs) = (1 + (cexpr a cs).2.1, (cexpr a cs).2.2.declare s (cexpr a cs).1 p) := by rw [cstmt]; rfl
      have e2 : (stmtK (.mk 1 s [a] n [] [] p) E S) = (E ++ [(s, (kindE a E S.ft).1)], KS.declare s p ⟨S.dl, (kindE a E S.ft).2⟩) := by rw [stmtK]; rfl
      have e3 : stepT (.mk 1 s [a] n [] [] p) = 1 + sizeEs [a] := by rw [stepT_eq]; rfl
      unfold StG
      rw [e1, e2, e3]
      rw [hs.sf]
      dsimp only
      rcases expr_eq hfa hoke with ⟨h1, h2, h3, h4⟩ | ⟨c, q, hc, h1, h2⟩
      · rw [h1, h2, h3]
        have hs2 : Sy { cs with rd := cs.rd || cellsE a } E ⟨S.dl, (0, 0)⟩ := (hs.rd _).st rfl
        rcases declare_eq hs2 s (cexpr a cs).1 p h4 with g | ⟨g1, g2, g3⟩
        · exact .inl g
        · refine .inr ⟨[(s, (cexpr a cs).1)], rfl, rfl, g2, ?_, ?_, ?_⟩
          · rw [g1]
            exact (Aft.reads (r := cellsE a) (by rfl) (by rfl) (by rfl)).eq (by simp [readsT, readsTs, cells]) (by simp [mdT, mdTs, mdK]) (by simp [hasT, hasTs])
          · rw [cexpr_size a hfa]
            have := sizeE_bd a
            simp only [sizeEs]
            left; omega
          · omega
      · left
        rw [h2, declare_fts h1]
        refine ⟨c, q, hc, h1, ?_⟩
        rw [Kdeclare_ft]
        exact hc
    · -- changes
      have k1 : ¬ k = 1 := by omega
      have k6 : ¬ k = 6 := by omega
      have k7 : ¬ (k = 7 ∨ k = 8) := by omega
      have e1 : (cstmt (.mk k s [a, c] n [] [] p) cs) = (1 + (cargs [a, c] 1 (cs.changes k)).1, (cargs [a, c] 1 (cs.changes k)).2) := by rw [cstmt, if_neg k1, if_neg k6, if_neg k7]
      have e2 : (stmtK (.mk k s [a, c] n [] [] p) E S) = (E, ⟨S.dl, needE c 1 E (needE a 1 E S.ft)⟩) := by rw [stmtK, if_neg k1, if_neg k6, if_neg k7]; rfl
      have e3 : stepT (.mk k s [a, c] n [] [] p) = 1 + sizeEs [a, c] := by rw [stepT_eq]; rw [if_neg (show ¬ ((Stmt.mk k s [a, c] n [] [] p).k = 7 ∨ (Stmt.mk k s [a, c] n [] [] p).k = 8) from k7), if_neg (show ¬ (Stmt.mk k s [a, c] n [] [] p).k = 6 from k6)]; rfl
      unfold StG
      rw [e1, e2, e3, hs.sf]
      have hsc := hs.changes k
      have hcc : cargs [a, c] 1 (cs.changes k) = ((cwant a 1 (cs.changes k)).1 + ((cwant c 1 (cwant a 1 (cs.changes k)).2).1 + 0), (cwant c 1 (cwant a 1 (cs.changes k)).2).2) := by rw [cargs_cons, cargs_cons]; rfl
      have hsize := cargs_size [a, c] hx 1 (cs.changes k)
      dsimp only
      rcases want_same (w := 1) hx.1 hsc.oke with ⟨h1, h2⟩ | ⟨f, q, hf, h1, h2⟩
      · rw [h2]
        have hs2 := hsc.rd ((cs.changes k).rd || cellsE a)
        rcases want_same (w := 1) hx.2.1 hs2.oke with ⟨g1, g2⟩ | ⟨f, q, hf, g1, g2⟩
        · right
          refine ⟨[], (List.append_nil E).symm, by rw [if_neg (show ¬ (Stmt.mk k s [a, c] n [] [] p).k = 1 from k1)]; rfl, ?_, ?_, ?_, by omega⟩
          · rw [hcc, h1]
            dsimp only
            rw [g1, g2, List.append_nil]
            exact (hs2.rd _).st rfl
          · rw [hcc, h1]
            dsimp only
            rw [g1]
            have hA := Aft.changes cs kk2 kk5
            refine (hA.trans (Aft.reads (a := cs.changes k) (b := { (cs.changes k) with rd := (cs.changes k).rd || cellsE a || cellsE c }) (r := cellsE a || cellsE c) (Bool.or_assoc _ _ _) rfl rfl)).eq ?_ ?_ ?_
            · simp [readsT, readsTs, cells]
            · have := hA.m0; simp only [mdT, mdTs]; omega
            · rw [Bool.eq_iff_iff]; simp [hasT, hasTs]; omega
          · rw [hsize]; left; omega
        · left
          refine ⟨f, q, hf, ?_, ?_⟩
          · rw [hcc, h1]; exact g1
          · dsimp only; rw [g2]
      · left
        rw [h2]
        refine ⟨f, q, hf, ?_, ?_⟩
        · rw [hcc]; exact cwant_ft c 1 _ h1
        · dsimp only; exact needE_ft E (st := (f, q)) hf c 1
    · -- if
      have e1 : (cstmt (.mk 6 s [a] n b e p) cs) = (1 + (cargs [a] 2 cs).1 + (if (cloop b [] 0 (cargs [a] 2 cs).2).1 < (cloop e [] 0 (cloop b [] 0 (cargs [a] 2 cs).2).2).1 then (cloop e [] 0 (cloop b [] 0 (cargs [a] 2 cs).2).2).1 else (cloop b [] 0 (cargs [a] 2 cs).2).1), (cloop e [] 0 (cloop b [] 0 (cargs [a] 2 cs).2).2).2) := by rw [cstmt, if_neg (by decide), if_pos rfl]
      have e2 : (stmtK (.mk 6 s [a] n b e p) E S) = (E, (blockK e E (blockK b E ⟨S.dl, needE a 2 E S.ft⟩).2).2) := by rw [stmtK, if_neg (by decide), if_pos rfl]; rfl
      have e3 : stepT (.mk 6 s [a] n b e p) = IntKind.i64.wrap (1 + sizeEs [a] + (if stepTs b 0 < stepTs e 0 then stepTs e 0 else stepTs b 0)) := by rw [stepT_eq]; rfl
      unfold StG
      rw [e1, e2, e3, hs.sf]
      have hcc : cargs [a] 2 cs = ((cwant a 2 cs).1 + 0, (cwant a 2 cs).2) := by rw [cargs_cons]; rfl
      have hsize := cargs_size [a] hx 2 cs
      generalize hC : cargs [a] 2 cs = C at hcc hsize
      have hC2 : C.2 = (cwant a 2 cs).2 := by rw [hcc]
      dsimp only
      rcases want_same (w := 2) hx.1 hoke with ⟨h1, h2⟩ | ⟨f, q, hf, h1, h2⟩
      · rw [h2]
        have hs2 : Sy C.2 E ⟨S.dl, (0, 0)⟩ := by rw [hC2, h1]; exact (hs.rd _).st rfl
        have hA1 : Aft cs C.2 (cellsE a) 0 false := by rw [hC2, h1]; exact Aft.reads rfl rfl rfl
        clear hcc hC2 h1 h2
        have hb2 := loop_same b hb fb (by omega) [] 0 0 C.2 E [] ⟨S.dl, (0, 0)⟩ (by rw [List.append_nil]; exact hs2) rfl (.inl ⟨rfl, by omega⟩) (by omega) (by omega)
        unfold LpG at hb2
        simp only [List.append_nil] at hb2
        rcases hb2 with g | ⟨L1, _, _, g3, _, _, g6, g7, g8⟩
        · exact .inl (g.block e [] 0 E)
        · have he2 := loop_same e he fe (by omega) [] 0 0 _ E [] _ (by rw [List.append_nil]; exact g3) rfl (.inl ⟨rfl, by omega⟩) (by omega) (by omega)
          unfold LpG at he2
          simp only [List.append_nil] at he2
          rcases he2 with q | ⟨L2, _, _, q3, _, _, q6, q7, q8⟩
          · exact .inl q
          · right
            have hw : IntKind.i64.wrap (1 + sizeEs [a] + (if stepTs b 0 < stepTs e 0 then stepTs e 0 else stepTs b 0)) = 1 + sizeEs [a] + (if stepTs b 0 < stepTs e 0 then stepTs e 0 else stepTs b 0) := wrap_small (by split <;> omega) (by split <;> omega)
            rw [hw]
            refine ⟨[], (List.append_nil E).symm, rfl, by rw [List.append_nil]; exact q3, ?_, ?_, by split <;> omega, by split <;> omega⟩
            · refine ((hA1.trans g6).trans q6).eq ?_ ?_ ?_
              · simp [readsT, cells, Bool.or_assoc]
              · have := g6.m0; have := q6.m0; simp only [mdT, show mdK 6 = 0 from rfl]; omega
              · simp [hasT]
            · rw [hsize]
              unfold Rm at g7 q7 ⊢
              split <;> split <;> omega
      · left
        rw [h2]
        have hf1 : C.2.ft = some (f, q) := by rw [hC2]; exact h1
        exact Fa.block ⟨f, q, hf, cloop_ft b [] 0 _ hf1, blockK_ft (st := (f, q)) hf b E _ rfl⟩ e [] 0 E
    · -- for
      have k1 : ¬ k = 1 := by omega
      have k6 : ¬ k = 6 := by omega
      have e1 : (cstmt (.mk k s [] n b [] p) cs) = if 64 < n then (1, (cs.declare s 1 p).fail 11 p) else (1 + n * (if 2049 < 1 + (cloop b [s] 0 (cs.declare s 1 p)).1 then 2049 else 1 + (cloop b [s] 0 (cs.declare s 1 p)).1), (cloop b [s] 0 (cs.declare s 1 p)).2) := by rw [cstmt, if_neg k1, if_neg k6, if_pos hk]
      have e2 : (stmtK (.mk k s [] n b [] p) E S) = (E, (blockK b (E ++ [(s, 1)]) (if 64 < n then ⟨(S.declare s p).dl, failF (S.declare s p).ft 11 p⟩ else S.declare s p)).2) := by rw [stmtK, if_neg k1, if_neg k6, if_pos hk]
      have e3 : stepT (.mk k s [] n b [] p) = IntKind.i64.wrap (1 + IntKind.i64.wrap (n * IntKind.i64.wrap (1 + stepTs b 0))) := by rw [stepT_eq]; rw [if_pos (show ((Stmt.mk k s [] n b [] p).k = 7 ∨ (Stmt.mk k s [] n b [] p).k = 8) from hk), if_neg (show ¬ (Stmt.mk k s [] n b [] p).k = 6 from k6)]; rfl
      unfold StG
      rw [e1, e2, e3]
      rcases declare_eq hs s 1 p (by decide) with g | ⟨g1, g2, g3⟩
      · left
        obtain ⟨c, q, hc, h1, h2⟩ := g
        by_cases hn64 : 64 < n
        · rw [if_pos hn64, if_pos hn64, h2, failF_ne (st := (c, q)) hc]
          dsimp only
          rw [fail_some h1]
          exact ⟨c, q, hc, h1, blockK_ft (st := (c, q)) hc b _ _ rfl⟩
        · rw [if_neg hn64, if_neg hn64]
          exact Fa.block ⟨c, q, hc, h1, h2⟩ b [s] 0 _
      · by_cases hn64 : 64 < n
        · left
          rw [if_pos hn64, if_pos hn64, g2.sf, failF_0]
          dsimp only
          exact ⟨11, p, by decide, fail_none_ft g2.ft _ _, blockK_ft (st := (11, p)) (show (11 : Int) ≠ 0 by decide) b _ _ rfl⟩
        · rw [if_neg hn64, if_neg hn64]
          rcases loop_same b hb fb (by omega) [s] 0 0 _ E [(s, 1)] _ g2 rfl (.inl ⟨rfl, by omega⟩) (by omega) (by omega) with q | ⟨L1, _, _, q3, _, _, q6, q7, q8⟩
          · exact .inl q
          · right
            have hm : 0 ≤ n * (1 + stepTs b 0) ∧ n * (1 + stepTs b 0) ≤ 64 * 1073741825 := ⟨Int.mul_nonneg hn.1 (by omega), Int.le_trans (Int.mul_le_mul_of_nonneg_right (b := 64) (by omega) (by omega)) (Int.mul_le_mul_of_nonneg_left (by omega) (by omega))⟩
            have w1 : IntKind.i64.wrap (1 + stepTs b 0) = 1 + stepTs b 0 := wrap_small (by omega) (by omega)
            have w2 : IntKind.i64.wrap (n * (1 + stepTs b 0)) = n * (1 + stepTs b 0) := wrap_small (by omega) (by omega)
            have w3 : IntKind.i64.wrap (1 + n * (1 + stepTs b 0)) = 1 + n * (1 + stepTs b 0) := wrap_small (by omega) (by omega)
            rw [w1, w2, w3]
            refine ⟨[], (List.append_nil E).symm, by rw [if_neg (show ¬ (Stmt.mk k s [] n b [] p).k = 1 from k1)]; rfl, by rw [List.append_nil]; exact q3, ?_, q7.loop hn.1 (by omega), by omega, by omega⟩
            have hA : Aft cs (cs.declare s 1 p) false 0 false := by rw [g1]; exact Aft.same rfl rfl rfl
            refine (hA.trans q6).eq ?_ ?_ ?_
            · simp [readsT, readsTs, cells]
            · have := q6.m0; rw [mdT, mdK, if_neg (by omega), if_neg (by omega), mdTs]; omega
            · rw [hasT, hasTs]; simp; omega
theorem loop_same : ∀ (l : List Stmt), fitTs l → fineTs l → szt l < 900000 → ∀ (also : List Bytes) (n r : Int) (cs : CS) (E0 L0 : Env) (S : KS), Sy cs (E0 ++ L0) S → L0.map (·.1) = also → Rm n r → 0 ≤ r → r ≤ 1073741824 → Fa (cloop l also n cs).2 (blockK l (E0 ++ L0) S).2 ∨ LpG l also n r cs E0 L0 S
  | [], _, _, _, also, n, r, cs, E0, L0, S, hs, hl, hr, r0, r1 => by
    right
    have hd := hs.dels hl
    have e := dels_same also cs
    refine ⟨[], by rw [blockK, List.append_nil], rfl, hd, by rw [List.append_nil]; exact hs.ne, ?_, ?_, hr, r0, r1⟩
    · rw [List.append_nil]; intro p hp; rw [cloop]; dsimp only; rw [e]; exact hs.ut p hp
    · rw [cloop]; dsimp only; rw [e]; exact Aft.same rfl rfl rfl
  | s :: l, hfit, hfine, hsz, also, n, r, cs, E0, L0, S, hs, hl, hr, r0, r1 => by
    have hsz2 : szT s + szt l < 900000 := hsz
    unfold fineTs at hfine
    unfold LpG
    rw [cloop, blockK]
    rcases stmt_same s hfit.1 hfine.1 (by omega) cs (E0 ++ L0) S hs with h | ⟨L1, h1, h2, h3, h4, h5, h6, h7⟩
    · left
      obtain ⟨c, a, hc, h1, h2⟩ := h
      rw [h1, Option.isSome_some, if_pos rfl]
      exact ⟨c, a, hc, h1, blockK_ft (st := (c, a)) hc l _ _ h2⟩
    · rw [h3.ft, Option.isSome_none, if_neg (by decide)]
      have hal : (L0 ++ L1).map (·.1) = (if s.k = 1 then also ++ [s.s] else also) := by
        rw [List.map_append, h2, hl]
        split
        · rfl
        · rw [List.append_nil]
      rw [h1, List.append_assoc]
      rw [List.append_assoc] at h3
      have hw : IntKind.i64.wrap (r + stepT s) = r + stepT s := wrap_small (by omega) (by omega)
      have hst : stepTs (s :: l) r = stepTs l (if 1073741824 < r + stepT s then 1073741824 else r + stepT s) := by rw [stepTs, hw]
      rw [hst]
      rcases loop_same l hfit.2 hfine.2 (by omega) _ (n + (cstmt s cs).1) (if 1073741824 < r + stepT s then 1073741824 else r + stepT s) (cstmt s cs).2 E0 (L0 ++ L1) (stmtK s (E0 ++ L0) S).2 h3 hal (hr.add h5 r0 h6) (by split <;> omega) (by split <;> omega) with g | ⟨L, g1, g2, g3, g4, g5, g6, g7, g8⟩
      · exact .inl g
      · right
        refine ⟨L1 ++ L, ?_, ?_, g3, ?_, ?_, ?_, g7, g8⟩
        · rw [g1]; simp
        · rw [List.map_append, h2, g2, lets]
          split <;> rfl
        · rw [show E0 ++ L0 ++ (L1 ++ L) = E0 ++ (L0 ++ L1) ++ L by simp]; exact g4
        · rw [show E0 ++ L0 ++ (L1 ++ L) = E0 ++ (L0 ++ L1) ++ L by simp]; exact g5
        · exact (h4.trans g6).eq (by rw [readsTs]) (by rw [mdTs]) (by rw [hasTs])
end
end Go.Proofs.Ytphjldhdnmoolaa.A
/- The walks of some functions over the abstract machine. -/
namespace Go.Proofs.Ytphjldhdnmoolaa.A
open Go
/-! the checker and the document's answer: definitions -/
theorem decl_ft {p : Int × Int} : ∀ (l : List Bytes) (cs : CS), cs.ft = some p → decl l cs = cs
  | [], cs, h => rfl
  | x :: l, cs, h => by rw [decl, declare_fts h]; exact decl_ft l cs h
theorem declK_ft {st : Int × Int} (hn : st.1 ≠ 0) : ∀ (l : List Bytes) (E : Env) (S : KS), S.ft = st → (declK l E S).2.ft = st
  | [], E, S, h => h
  | x :: l, E, S, h => by rw [declK]; exact declK_ft hn l _ _ (by rw [Kdeclare_ft (by rw [h]; exact hn)]; exact h)
theorem needsK_ft {st : Int × Int} (hn : st.1 ≠ 0) (w : Int) (E : Env) : ∀ (l : List Expr) (n : Int), (needsK w l E n st).2 = st
  | [], n => rfl
  | e :: l, n => by rw [needsK, needE_ft E hn]; exact needsK_ft hn w E l _
theorem needsK_fst (w : Int) (E : Env) : ∀ (l : List Expr) (n : Int) (st : Int × Int), 0 ≤ n → n + szs l ≤ 2000000000 → (needsK w l E n st).1 = n + sizeEs l
  | [], n, st, _, _ => by simp [needsK, sizeEs]
  | e :: l, n, st, h0, h1 => by
    rw [szs] at h1
    have := sizeE_bd e
    have hw : IntKind.i64.wrap (n + sizeE e) = n + sizeE e := wrap_small (by omega) (by omega)
    rw [needsK, hw, needsK_fst w E l _ _ (by omega) (by omega), sizeEs]; omega
theorem needs_same {E : Env} {w : Int} : ∀ (l : List Expr), fitEs l → ∀ (cs : CS) (n : Int), OkE cs E →
    ((cargs l w cs).2 = { cs with rd := cs.rd || cells l } ∧ (needsK w l E n (0, 0)).2 = (0, 0)) ∨ ∃ c a, c ≠ 0 ∧ (cargs l w cs).2.ft = some (c, a) ∧ (needsK w l E n (0, 0)).2 = (c, a)
  | [], _, cs, n, h => .inl ⟨(rd_same cs _ rfl).symm, rfl⟩
  | e :: l, hf, cs, n, h => by
    rw [cargs_cons, needsK]
    dsimp only
    rcases want_same (w := w) hf.1 h with ⟨h1, h2⟩ | ⟨c, a, hc, h1, h2⟩
    · rw [h1, h2]
      rcases needs_same l hf.2 { cs with rd := cs.rd || cellsE e } (IntKind.i64.wrap (n + sizeE e)) (h.rd _) with ⟨g1, g2⟩ | g
      · exact .inl ⟨by rw [g1, cells, Bool.or_assoc], g2⟩
      · exact .inr g
    · rw [h2]
      exact .inr ⟨c, a, hc, cargs_ft l w _ h1, needsK_ft (st := (c, a)) hc w E l _⟩
theorem decl_same : ∀ (l : List Bytes) (cs : CS) (E : Env) (S : KS), Sy cs E S → Fa (decl l cs) (declK l E S).2 ∨ (Sy (decl l cs) (declK l E S).1 (declK l E S).2 ∧ Aft cs (decl l cs) false 0 false)
  | [], cs, E, S, h => .inr ⟨h, Aft.same rfl rfl rfl⟩
  | p :: l, cs, E, S, h => by
    rw [decl, declK]
    rcases declare_eq h p 1 0 (by decide) with ⟨c, a, hc, h1, h2⟩ | ⟨g1, g2, g3⟩
    · left
      refine ⟨c, a, hc, ?_, declK_ft (st := (c, a)) hc l _ _ h2⟩
      rw [decl_ft l _ h1]; exact h1
    · rcases decl_same l _ _ _ g2 with g | ⟨g, k⟩
      · exact .inl g
      · have hA : Aft cs (cs.declare p 1 0) false 0 false := by rw [g1]; exact Aft.same rfl rfl rfl
        exact .inr ⟨g, (hA.trans k).eq rfl rfl rfl⟩
theorem repl_get {s x : Bytes} {v : Int} : ∀ {l : List Ent}, getM x (repl s v l) = if x = s ∧ getM s l ≠ none then some v else getM x l
  | [] => by simp [repl, getM]
  | e :: l => by
    rw [repl]
    by_cases h : s = e.1
    · rw [if_pos h, getM]
      by_cases hx : x = s
      · rw [if_pos hx, if_pos ⟨hx, by rw [getM, if_pos h]; simp⟩]
      · rw [if_neg hx, if_neg (fun y => hx y.1), getM, if_neg (by rw [← h]; exact hx)]
    · rw [if_neg h, getM, getM, getM, if_neg h]
      by_cases hx : x = e.1
      · rw [if_pos hx, if_pos hx, if_neg (fun (y : x = s ∧ _) => h (y.1 ▸ hx))]
      · rw [if_neg hx, if_neg hx]; exact repl_get
theorem putM_get {s x : Bytes} {v : Int} {l : List Ent} {c : Nat} : getM x (putM s v l c).1 = if x = s then some v else getM x l := by
  unfold putM
  cases h : getM s l with
  | some u => dsimp only; rw [repl_get, h]; simp
  | none =>
    dsimp only
    rw [getM_cat]
    by_cases hx : x = s
    · subst hx; rw [h, if_pos rfl]; simp [getM]
    · rw [if_neg hx]
      cases getM x l <;> simp [getM, hx]
theorem relet_same : ∀ (l : List Stmt) (cs : CS) (E L : Env), cs.ft = none → L.map (·.1) = lets l → (∀ p ∈ L, getM p.1 cs.us = some p.2) → (∀ s, getM s cs.kn = look s E) → ((E ++ L).map (·.1)).Nodup →
    ∃ kn kc, relet l cs = { cs with kn := kn, kc := kc } ∧ ∀ s, getM s kn = look s (E ++ L)
  | [], cs, E, L, hf, hL, hu, hk, hn => by
    cases L with
    | nil => exact ⟨cs.kn, cs.kc, rfl, by rw [List.append_nil]; exact hk⟩
    | cons => cases hL
  | x :: l, cs, E, L, hf, hL, hu, hk, hn => by
    rw [relet]
    rw [lets] at hL
    by_cases h1 : x.k = 1
    · rw [if_pos h1] at hL
      rw [if_pos ⟨h1, hf⟩]
      cases L with
      | nil => cases hL
      | cons p L =>
        rw [List.map_cons] at hL
        obtain ⟨hp, hL2⟩ := List.cons.inj hL
        have hg := hu p (List.mem_cons_self ..)
        rw [hp] at hg
        rw [hg]
        have hn2 : ((E ++ [p] ++ L).map (·.1)).Nodup := by rw [List.append_assoc]; exact hn
        obtain ⟨kn, kc, h2, h3⟩ := relet_same l { cs with kn := (putM x.s p.2 cs.kn cs.kc).1, kc := (putM x.s p.2 cs.kn cs.kc).2 } (E ++ [p]) L hf hL2 (fun q hq => hu q (List.mem_cons_of_mem _ hq)) (fun s => by
          dsimp only
          rw [putM_get, look_app, hk s]
          rw [List.map_append, List.nodup_append] at hn
          by_cases hs : s = x.s
          · rw [if_pos hs]
            have : look s E = none := look_none.2 fun hm => hn.2.2 s hm p.1 (by simp) (by rw [hs, hp])
            rw [this]; simp [look, hs, hp]
          · rw [if_neg hs]
            have : look s [p] = none := by simp [look, hp]; exact fun e => hs e.symm
            rw [this]
            cases look s E <;> rfl) hn2
        exact ⟨kn, kc, h2, by rw [List.append_assoc] at h3; exact h3⟩
    · rw [if_neg h1] at hL
      rw [if_neg (fun y => h1 y.1)]
      exact relet_same l cs E L hf hL hu hk hn
theorem relet_ft {p : Int × Int} : ∀ (l : List Stmt) (cs : CS), cs.ft = some p → relet l cs = cs
  | [], cs, h => rfl
  | x :: l, cs, h => by rw [relet, if_neg (by rw [h]; simp)]; exact relet_ft l cs h
def mdB (a b c : Bool) : Int := if a || b then 3 else if c then 2 else 0
theorem mdB_max (a b c x y z : Bool) : max (mdB a b c) (mdB x y z) = mdB (a || x) (b || y) (c || z) := by
  cases a <;> cases b <;> cases c <;> cases x <;> cases y <;> cases z <;> rfl
theorem mdK_eq (k : Int) : mdK k = mdB (decide (2 ≤ k) && decide (k ≤ 2)) (decide (5 ≤ k) && decide (k ≤ 5)) (decide (2 ≤ k) && decide (k ≤ 5)) := by
  unfold mdK mdB
  by_cases h2 : k = 2
  · subst h2; rfl
  by_cases h5 : k = 5
  · subst h5; rfl
  by_cases h3 : k = 3
  · subst h3; rfl
  by_cases h4 : k = 4
  · subst h4; rfl
  have e1 : (decide (2 ≤ k) && decide (k ≤ 2)) = false := by simp; omega
  have e2 : (decide (5 ≤ k) && decide (k ≤ 5)) = false := by simp; omega
  have e3 : (decide (2 ≤ k) && decide (k ≤ 5)) = false := by simp; omega
  rw [e1, e2, e3, if_neg (by omega), if_neg (by omega)]; rfl
mutual
theorem mdT_eq : ∀ s : Stmt, mdT s = mdB (hasT 2 2 s) (hasT 5 5 s) (hasT 2 5 s)
  | .mk k s x n b e p => by
    rw [mdT, mdTs_eq b, mdTs_eq e, mdB_max, mdK_eq, mdB_max, hasT, hasT, hasT]
theorem mdTs_eq : ∀ l : List Stmt, mdTs l = mdB (hasTs 2 2 l) (hasTs 5 5 l) (hasTs 2 5 l)
  | [] => rfl
  | s :: l => by rw [mdTs, mdT_eq s, mdTs_eq l, mdB_max, hasTs, hasTs, hasTs]
end
mutual
theorem hasT_sub {a b c e : Int} (h1 : c ≤ a) (h2 : b ≤ e) : ∀ s : Stmt, hasT a b s = true → hasT c e s = true
  | .mk k s x n l m p => by
    have i1 := hasTs_sub h1 h2 l
    have i2 := hasTs_sub h1 h2 m
    rw [hasT, hasT]
    simp only [Bool.or_eq_true, Bool.and_eq_true, decide_eq_true_eq]
    rintro (⟨h3, h4⟩ | h | h)
    · exact .inl ⟨by omega, by omega⟩
    · exact .inr (.inl (i1 h))
    · exact .inr (.inr (i2 h))
theorem hasTs_sub {a b c e : Int} (h1 : c ≤ a) (h2 : b ≤ e) : ∀ l : List Stmt, hasTs a b l = true → hasTs c e l = true
  | [] => id
  | s :: l => by
    have i1 := hasT_sub h1 h2 s
    have i2 := hasTs_sub h1 h2 l
    rw [hasTs, hasTs]
    simp only [Bool.or_eq_true]
    exact fun h => h.elim (fun h => .inl (i1 h)) (fun h => .inr (i2 h))
end
theorem sy0 : Sy cs0 [] KS0 := ⟨cs0_ok, rfl, rfl, rfl, fun _ => rfl, by simp, by simp, by simp, by simp⟩
/-- The end of `check` where a fault has been found. -/
theorem check_ft {d : Def} {c a : Int} (h : (chkG d).2.ft = some (c, a)) : check d = (Info0, some (c, a)) := by
  have h1 : (chkM (chkN d).2.rd (chkG d).2).ft = some (c, a) := by unfold chkM; split <;> exact h
  have h2 : (chkF d).ft = some (c, a) := by
    unfold chkF; split
    · rw [fail_some h1]; exact h1
    · exact h1
  unfold check; rw [h2]
theorem chkG_ft {d : Def} {p : Int × Int} (h : (chkB d).2.ft = some p) : (chkG d).2.ft = some p := by
  have h1 : (chkT (chkB d).2).ft = some p := by unfold chkT; split <;> exact h
  unfold chkG
  rw [relet_ft _ _ h1]
  exact cargs_ft _ _ _ h1
theorem chkB_ft {d : Def} {p : Int × Int} (h : (chkN d).2.ft = some p) : (chkB d).2.ft = some p := by unfold chkB; exact cloop_ft _ _ _ _ h
theorem rcheck_ft {d : Def} {c a : Int} (h8 : ¬ 8 < d.params.length) (hc : c ≠ 0) (h : (rG d).2 = (c, a)) : rcheck d = (Info0, c, a) := by
  have h1 : rF d = (c, a) := by unfold rF; rw [h]; split; exact failF_ne (st := (c, a)) hc _ _; rfl
  unfold rcheck; rw [if_neg h8, h1, if_pos hc]

theorem md_end (g : CS) (q1 q2 q3 q4 q5 q6 : Bool) (h1 : q1 = true → q3 = true) (h2 : q2 = true → q3 = true) : (if ((q4 || q6) || q5) && decide (max 1 (mdB q1 q2 q3) = 2) then ({ g with rd := (q4 || q6) || q5, md := 3 } : CS) else { g with rd := (q4 || q6) || q5, md := max 1 (mdB q1 q2 q3) }).md = if q3 then (if !q1 && (!q2 && !(q4 || (q5 || q6))) then 2 else 3) else 1 := by
  cases q1 <;> cases q2 <;> cases q3 <;> cases q4 <;> cases q5 <;> cases q6 <;> first | rfl | (exact absurd (h1 rfl) (by decide)) | (exact absurd (h2 rfl) (by decide))
theorem check_same {d : Def} (hf : FitD d) (ho : DefOK d) : (check d).1 = (rcheck d).1 ∧ faultP (check d).2 = (rcheck d).2 ∧ (((check d).2 = none ∧ 0 ≤ (rG d).1) ∨ ∃ c a, c ≠ 0 ∧ (check d).2 = some (c, a)) := by
  have hsz := ho.size
  by_cases h8 : 8 < d.params.length
  · have h1 : (chkA d).ft = some (15, 0) := by
      unfold chkA; rw [if_pos h8]
      rw [decl_ft (p := (15, 0)) _ _ rfl]; rfl
    have h2 : (chkN d).2.ft = some (15, 0) := by unfold chkN; exact cargs_ft _ _ _ h1
    rw [check_ft (chkG_ft (chkB_ft h2)), rcheck, if_pos h8]
    exact ⟨rfl, rfl, .inr ⟨15, 0, by decide, rfl⟩⟩
  have fin : ∀ c a, c ≠ 0 → (chkG d).2.ft = some (c, a) → (rG d).2 = (c, a) → (check d).1 = (rcheck d).1 ∧ faultP (check d).2 = (rcheck d).2 ∧ (((check d).2 = none ∧ 0 ≤ (rG d).1) ∨ ∃ c a, c ≠ 0 ∧ (check d).2 = some (c, a)) := fun c a hc h1 h2 => by
    rw [check_ft h1, rcheck_ft h8 hc h2]; exact ⟨rfl, rfl, .inr ⟨c, a, hc, rfl⟩⟩
  have hA : chkA d = decl d.params cs0 := by unfold chkA; rw [if_neg h8]
  have hbf : ∀ (c a : Int), c ≠ 0 → (rB d).2.ft = (c, a) → (rG d).2 = (c, a) := fun c a hc h => by
    unfold rG; rw [h]; exact needsK_ft (st := (c, a)) hc 1 _ _ _
  have hnf : ∀ (c a : Int), c ≠ 0 → (rN d).2 = (c, a) → (rG d).2 = (c, a) := fun c a hc h => hbf c a hc (by
    unfold rB; exact blockK_ft (st := (c, a)) hc _ _ _ h)
  rcases decl_same d.params cs0 [] KS0 sy0 with ⟨c, a, hc, h1, h2⟩ | ⟨hs, haft⟩
  · rw [← hA] at h1
    exact fin c a hc (chkG_ft (chkB_ft (cargs_ft _ _ _ h1))) (hnf c a hc (by unfold rN rP; rw [h2]; exact needsK_ft (st := (c, a)) hc 2 _ _ _))
  rw [← hA] at hs haft
  have hs : Sy (chkA d) (rP d).1 (rP d).2 := hs
  rcases needs_same (w := 2) d.needs hf.needs (chkA d) (stepTs d.body 0) hs.oke with ⟨n1, n2⟩ | ⟨c, a, hc, h1, h2⟩
  rotate_left
  · exact fin c a hc (chkG_ft (chkB_ft h1)) (hnf c a hc (by unfold rN; rw [hs.sf]; exact h2))
  have hn1 : (chkN d).2 = { chkA d with rd := (chkA d).rd || cells d.needs } := n1
  have hn2 : (rN d).2 = (0, 0) := by unfold rN; rw [hs.sf]; exact n2
  have hs2 : Sy { (chkN d).2 with rd := false } ((rP d).1 ++ []) ⟨(rP d).2.dl, (rN d).2⟩ := by
    rw [hn1, List.append_nil]; exact ((hs.rd _).rd false).st hn2
  have hlp := loop_same d.body hf.body ho.fine (by omega) [] 0 0 _ (rP d).1 [] _ hs2 rfl (.inl ⟨rfl, by omega⟩) (by omega) (by omega)
  unfold LpG at hlp
  simp only [List.append_nil] at hlp
  have hBe : blockK d.body (rP d).1 ⟨(rP d).2.dl, (rN d).2⟩ = rB d := rfl
  have hCe : cloop d.body [] 0 { (chkN d).2 with rd := false } = chkB d := rfl
  rw [hBe, hCe] at hlp
  rcases hlp with ⟨c, a, hc, h1, h2⟩ | ⟨L, b1, b2, b3, b4, b5, b6, b7, b8⟩
  · exact fin c a hc (chkG_ft h1) (hbf c a hc h2)
  -- the top block's names again
  have hT : chkT (chkB d).2 = { (chkB d).2 with tn := (chkB d).2.tn && !(chkB d).2.rd } := by
    unfold chkT
    cases h : (chkB d).2.rd
    · simp only [Bool.false_eq_true, if_false, Bool.not_false, Bool.and_true]
    · simp [h]
  obtain ⟨kn, kc, r1, r2⟩ := relet_same d.body (chkT (chkB d).2) (rP d).1 L (by rw [hT]; exact b3.ft) b2 (fun p hp => by rw [hT]; exact b5 p (List.mem_append_right _ hp)) (fun s => by rw [hT]; exact b3.kn s) b4
  have hoke : OkE (relet d.body (chkT (chkB d).2)) ((rP d).1 ++ L) := by
    rw [r1, hT]
    refine ⟨b3.ft, r2, fun s v hv => ?_⟩
    have hm := b5 _ (look_mem hv)
    obtain ⟨e, e1, e2, e3⟩ := getM_mem hm
    dsimp only at e3
    rw [← e3]; exact b3.ok.pos e e1
  have gsame := needs_same (w := 1) d.give hf.give _ (rN d).1 hoke
  rw [← b1] at gsame
  rcases gsame with ⟨g1, g2⟩ | ⟨c, a, hc, h1, h2⟩
  rotate_left
  · exact fin c a hc h1 (by unfold rG; rw [b3.sf]; exact h2)
  have hg1 : (chkG d).2 = { relet d.body (chkT (chkB d).2) with rd := (relet d.body (chkT (chkB d).2)).rd || cells d.give } := g1
  have hg2 : (rG d).2 = (0, 0) := by unfold rG; rw [b3.sf]; exact g2
  -- steps
  have s1 : (chkN d).1 = sizeEs d.needs := cargs_size _ hf.needs _ _
  have s2 : (chkG d).1 = sizeEs d.give := cargs_size _ hf.give _ _
  have z1 := sizeEs_bd d.needs
  have z2 := sizeEs_bd d.give
  have s3 : (rN d).1 = stepTs d.body 0 + sizeEs d.needs := needsK_fst _ _ _ _ _ (by omega) (by omega)
  have s4 : (rG d).1 = stepTs d.body 0 + sizeEs d.needs + sizeEs d.give := by unfold rG; rw [needsK_fst _ _ _ _ _ (by omega) (by omega), s3]
  have s5 : chkSteps d = sizeEs d.needs + sizeEs d.give + (chkB d).1 := by unfold chkSteps; rw [s1, s2]
  have hgft : (chkG d).2.ft = none := by rw [hg1, r1, hT]; exact b3.ft
  have hMft : (chkM (chkN d).2.rd (chkG d).2).ft = none := by unfold chkM; split <;> exact hgft
  have hstep : (2048 < chkSteps d ↔ 2048 < (rG d).1) ∧ (¬ 2048 < chkSteps d → chkSteps d = (rG d).1) := by
    unfold Rm at b7
    omega
  by_cases hbig : 2048 < chkSteps d
  · have h1 : (chkF d).ft = some (11, 0) := by unfold chkF; rw [if_pos hbig]; exact fail_none_ft hMft _ _
    have h2 : rF d = (11, 0) := by unfold rF; rw [if_pos (hstep.1.1 hbig), hg2, failF_0]
    unfold check rcheck
    rw [h1, h2, if_neg h8, if_pos (by decide)]
    exact ⟨rfl, rfl, .inr ⟨11, 0, by decide, rfl⟩⟩
  · have h1 : chkF d = chkM (chkN d).2.rd (chkG d).2 := by unfold chkF; rw [if_neg hbig]
    have h2 : rF d = (0, 0) := by unfold rF; rw [if_neg (fun h => hbig (hstep.1.2 h)), hg2]
    unfold check rcheck
    rw [h1, hMft, h2, if_neg h8, if_neg (by decide)]
    refine ⟨?_, rfl, .inl ⟨rfl, by rw [s4]; omega⟩⟩
    dsimp only
    -- the state at the end
    have a1 : (chkA d).rd = false := by rw [haft.rd]; rfl
    have a2 : (chkA d).md = 1 := by rw [haft.md (by decide)]; rfl
    have a3 : (chkA d).tn = true := by rw [haft.tn]; rfl
    have c1 : (chkB d).2.rd = readsTs d.body := by rw [b6.rd]; simp
    have c2 : (chkB d).2.md = max 1 (mdTs d.body) := by rw [b6.md (by rw [hn1, a2]; decide), hn1, a2]
    have c3 : (chkB d).2.tn = !hasTs 2 2 d.body := by rw [b6.tn, hn1, a3]; simp
    have d1 : (chkG d).2.rd = (readsTs d.body || cells d.give) := by rw [hg1, r1, hT, c1]
    have d2 : (chkG d).2.md = max 1 (mdTs d.body) := by rw [hg1, r1, hT]; exact c2
    have d3 : (chkG d).2.tn = (!hasTs 2 2 d.body && !readsTs d.body) := by rw [hg1, r1, hT]; dsimp only; rw [c3, c1]
    have d4 : (chkG d).2.us = (chkB d).2.us := by rw [hg1, r1, hT]
    have d5 : (chkN d).2.rd = cells d.needs := by rw [hn1, a1]; simp
    have u1 : ((chkB d).2.us.length : Int) = (rB d).2.dl.length := by rw [← b3.us, List.length_map]
    have m1 : (chkM (chkN d).2.rd (chkG d).2).md = rMode d := by
      unfold chkM rMode
      rw [d1, d5, d2, mdTs_eq]
      have hh : hasTs 2 2 d.body = true → hasTs 2 5 d.body = true := hasTs_sub (by omega) (by omega) d.body
      have hh5 : hasTs 5 5 d.body = true → hasTs 2 5 d.body = true := hasTs_sub (by omega) (by omega) d.body
      exact md_end _ _ _ _ _ _ _ hh hh5
    have m2 : (chkM (chkN d).2.rd (chkG d).2).tn = (!hasTs 2 2 d.body && !readsTs d.body) := by
      rw [← d3]; unfold chkM; split <;> rfl
    have m3 : (chkM (chkN d).2.rd (chkG d).2).us = (chkB d).2.us := by
      rw [← d4]; unfold chkM; split <;> rfl
    rw [m1, m2, m3, u1, hstep.2 hbig]
end Go.Proofs.Ytphjldhdnmoolaa.A
/- The walks of some functions over the abstract machine. -/
namespace Go.Proofs.Ytphjldhdnmoolaa.A
open Go
/-! texts of any length -/
set_option maxRecDepth 100000 in
set_option maxHeartbeats 4000000 in
theorem tokens_big (m : Mem) (s : Bytes) (hbig : 480 < s.size) : Sim 32 [ss s] m (fun r m' => r = .tup [slK [], ii 2, ii 0] ∧ m' = m) := by
  refine Sim.ofS 124 [.tmp 2, .tmp 3, .tmp 4] Try.func32 rfl rfl rfl (by simp) fun wr => ?_
  simp only [go_sem, Nat.reduceEqDiff, Nat.reduceBEq, Int.reduceToNat, Int.reduceLT, Int.reduceLE, Int.reduceEq, Nat.reduceLeDiff, Nat.reduceLT, Nat.reduceMul, Nat.reduceAdd, String.reduceEq]
  refine TS.seq (TS.of [] fun Q hQ => ?_)
  simp only [go_sem, Nat.reduceEqDiff, Nat.reduceBEq, Int.reduceToNat, Int.reduceLT, Int.reduceLE, Int.reduceEq, Nat.reduceLeDiff, Nat.reduceLT, Nat.reduceMul, Nat.reduceAdd, String.reduceEq]
  refine hQ .normal _ ?_; clear hQ Q
  have hbig' : (480 : Int) < (s.size : Int) := by omega
  refine TS.seq (TS.of [] fun Q hQ => ?_)
  simp only [go_sem, Nat.reduceEqDiff, Nat.reduceBEq, Int.reduceToNat, Int.reduceLT, Int.reduceLE, Int.reduceEq, Nat.reduceLeDiff, Nat.reduceLT, Nat.reduceMul, Nat.reduceAdd, String.reduceEq, hbig']
  refine hQ .ret _ ?_; exact post_ret _ _ _ rfl rfl (DropW.refl _) ⟨rfl, rfl⟩
theorem parse_long {s : Bytes} (h : 480 < s.size) : parse s = (D0, 2, 0) := by unfold parse tokens; rw [if_pos h]; rfl
set_option maxRecDepth 100000 in
set_option maxHeartbeats 4000000 in
theorem parse_any (m : Mem) (s : Bytes) : Sim 22 [ss s] m (fun r m' => r = .tup [.agg (encD (parse s).1), ii (parse s).2.1, ii (parse s).2.2] ∧ m' = m) := by
  by_cases hs : s.size < 900000
  · exact parse_sim m s hs
  rw [parse_long (by omega)]
  refine Sim.ofS 48 [.cell 2 27, .tmp 3, .tmp 4] Try.func22 rfl rfl rfl (by simp) fun wr => ?_
  simp only [go_sem, Nat.reduceEqDiff, Nat.reduceBEq, Int.reduceToNat, Int.reduceLT, Int.reduceLE, Int.reduceEq, Nat.reduceLeDiff, Nat.reduceLT, Nat.reduceMul, Nat.reduceAdd, String.reduceEq]
  refine TS.of [] fun Q hQ => ?_
  simp only [go_sem, Nat.reduceEqDiff, Nat.reduceBEq, Int.reduceToNat, Int.reduceLT, Int.reduceLE, Int.reduceEq, Nat.reduceLeDiff, Nat.reduceLT, Nat.reduceMul, Nat.reduceAdd, String.reduceEq]
  refine cal_eq (tokens_big _ s (by omega)) ?_
  simp only [go_sem, Nat.reduceEqDiff, Nat.reduceBEq, Int.reduceToNat, Int.reduceLT, Int.reduceLE, Int.reduceEq, Nat.reduceLeDiff, Nat.reduceLT, Nat.reduceMul, Nat.reduceAdd, String.reduceEq]
  refine hQ .ret _ ?_; clear hQ Q; refine post_ret _ _ (.tup [.agg (encD D0), ii 2, ii 0]) ?_ ?_ (DropW.tail0 _ rfl) ⟨rfl, rfl⟩
  · simp only [go_sem, Nat.reduceEqDiff, Nat.reduceBEq, Int.reduceToNat, Int.reduceLT, Int.reduceLE, Int.reduceEq, Nat.reduceLeDiff, Nat.reduceLT, Nat.reduceMul, Nat.reduceAdd, String.reduceEq] <;> rfl
  · rfl
set_option maxRecDepth 100000 in
set_option maxHeartbeats 4000000 in
theorem checked_any (m : Mem) (s : Bytes) : Sim 23 [ss s] m (fun r m' => r = .tup [.agg (encI (checkedP s).1), ii (checkedP s).2.1, ii (checkedP s).2.2.1, bb (checkedP s).2.2.2] ∧ m' = m) := by
  by_cases hs : s.size < 900000
  · exact checked_sim m s hs parse_ok
  have hp := parse_any
  have hgo : checkedP s = (Info0, 0, 0, false) := by rw [checkedP, if_neg (by rw [parse_long (by omega)]; decide)]
  rw [hgo]
  refine Sim.ofS 35 [.cell 2 31, .tmp 3, .tmp 4, .tmp 5] Try.func23 rfl rfl rfl (by simp) fun wr => ?_
  simp only [go_sem, Nat.reduceEqDiff, Nat.reduceBEq, Int.reduceToNat, Int.reduceLT, Int.reduceLE, Int.reduceEq, Nat.reduceLeDiff, Nat.reduceLT, Nat.reduceMul, Nat.reduceAdd, String.reduceEq]
  refine TS.of [] fun Q hQ => ?_
  simp only [go_sem, Nat.reduceEqDiff, Nat.reduceBEq, Int.reduceToNat, Int.reduceLT, Int.reduceLE, Int.reduceEq, Nat.reduceLeDiff, Nat.reduceLT, Nat.reduceMul, Nat.reduceAdd, String.reduceEq]
  refine cal_eq (parse_any _ s) ?_
  rw [parse_long (by omega)]
  simp only [go_sem, Nat.reduceEqDiff, Nat.reduceBEq, Int.reduceToNat, Int.reduceLT, Int.reduceLE, Int.reduceEq, Nat.reduceLeDiff, Nat.reduceLT, Nat.reduceMul, Nat.reduceAdd, String.reduceEq]
  refine hQ .ret _ ?_; clear hQ Q; refine post_ret _ _ (.tup [.agg (encI Info0), ii 0, ii 0, bb false]) ?_ ?_ (DropW.tail0 _ rfl) ⟨rfl, rfl⟩
  · simp only [go_sem, Nat.reduceEqDiff, Nat.reduceBEq, Int.reduceToNat, Int.reduceLT, Int.reduceLE, Int.reduceEq, Nat.reduceLeDiff, Nat.reduceLT, Nat.reduceMul, Nat.reduceAdd, String.reduceEq]
  · rfl
/-- What the program finds of a text that is parsed is what the document says. -/
theorem checkedP_ok {s : Bytes} (h : (parse s).2.1 = 0) : checkedP s = ((rcheck (parse s).1).1, (rcheck (parse s).1).2.1, (rcheck (parse s).1).2.2, true) := by
  obtain ⟨h1, h2, _⟩ := check_same (parse_fit h) (parse_ok h)
  unfold checkedP; rw [if_pos h, h1, h2]
theorem checkedP_no {s : Bytes} (h : (parse s).2.1 ≠ 0) : checkedP s = (Info0, 0, 0, false) := by unfold checkedP; rw [if_neg h]
theorem info_ii (a b c : Int) (d : Bool) : info [ii a, ii b, ii c, bb d] = some (a, b, c, d) := rfl
set_option maxRecDepth 100000 in
set_option maxHeartbeats 4000000 in
theorem texts_law (m : Mem) (s : Bytes) : Sim 3 [ss s] m (fun r m' => r = bb true ∧ m' = m) := by
  have hp := fun m => parse_any m s
  have hc := fun m => checked_any m s
  refine Sim.ofS 49 [.tmp 2] Try.func3 rfl rfl rfl (by simp) fun wr => ?_
  simp only [go_sem, Nat.reduceEqDiff, Nat.reduceBEq, Int.reduceToNat, Int.reduceLT, Int.reduceLE, Int.reduceEq, Nat.reduceLeDiff, Nat.reduceLT, Nat.reduceMul, Nat.reduceAdd, String.reduceEq]
  refine TS.seq (TS.of [] fun Q hQ => ?_)
  simp only [go_sem, Nat.reduceEqDiff, Nat.reduceBEq, Int.reduceToNat, Int.reduceLT, Int.reduceLE, Int.reduceEq, Nat.reduceLeDiff, Nat.reduceLT, Nat.reduceMul, Nat.reduceAdd, String.reduceEq]
  refine hQ .normal _ ?_; clear hQ Q
  refine TS.seq (TS.of [] fun Q hQ => ?_)
  simp only [go_sem, Nat.reduceEqDiff, Nat.reduceBEq, Int.reduceToNat, Int.reduceLT, Int.reduceLE, Int.reduceEq, Nat.reduceLeDiff, Nat.reduceLT, Nat.reduceMul, Nat.reduceAdd, String.reduceEq]
  refine cal_eq (alive8_sim _) ?_
  simp only [go_sem, Nat.reduceEqDiff, Nat.reduceBEq, Int.reduceToNat, Int.reduceLT, Int.reduceLE, Int.reduceEq, Nat.reduceLeDiff, Nat.reduceLT, Nat.reduceMul, Nat.reduceAdd, String.reduceEq]
  refine hQ .normal _ ?_; clear hQ Q
  by_cases h : (parse s).2.1 = 0
  · have hr := fun m => rcheck_sim m (parse s).1 (parse_ok h) (fits_arg _ (parse_fit h).body)
    rw [checkedP_ok h] at hc
    rw [h] at hp
    generalize (parse s).2.2 = pl at hp
    generalize parse s = D at hp hr hc
    generalize D.1 = d at hp hr hc
    generalize rcheck d = X at hr hc
    obtain ⟨⟨i1, i2, i3, i4⟩, c, a⟩ := X
    refine TS.seq (TS.of [] fun Q hQ => ?_)
    simp only [go_sem, Nat.reduceEqDiff, Nat.reduceBEq, Int.reduceToNat, Int.reduceLT, Int.reduceLE, Int.reduceEq, Nat.reduceLeDiff, Nat.reduceLT, Nat.reduceMul, Nat.reduceAdd, String.reduceEq]
    refine cal_eq (hp _) ?_
    simp only [go_sem, Nat.reduceEqDiff, Nat.reduceBEq, Int.reduceToNat, Int.reduceLT, Int.reduceLE, Int.reduceEq, Nat.reduceLeDiff, Nat.reduceLT, Nat.reduceMul, Nat.reduceAdd, String.reduceEq, encD]
    refine hQ .normal _ ?_; clear hQ Q
    refine TS.seq (TS.of [] fun Q hQ => ?_)
    simp only [go_sem, Nat.reduceEqDiff, Nat.reduceBEq, Int.reduceToNat, Int.reduceLT, Int.reduceLE, Int.reduceEq, Nat.reduceLeDiff, Nat.reduceLT, Nat.reduceMul, Nat.reduceAdd, String.reduceEq]
    refine hQ .normal _ ?_; clear hQ Q
    refine TS.seq (TS.of [] fun Q hQ => ?_)
    simp only [go_sem, Nat.reduceEqDiff, Nat.reduceBEq, Int.reduceToNat, Int.reduceLT, Int.reduceLE, Int.reduceEq, Nat.reduceLeDiff, Nat.reduceLT, Nat.reduceMul, Nat.reduceAdd, String.reduceEq]
    refine cal_eq (hc _) ?_
    simp only [go_sem, Nat.reduceEqDiff, Nat.reduceBEq, Int.reduceToNat, Int.reduceLT, Int.reduceLE, Int.reduceEq, Nat.reduceLeDiff, Nat.reduceLT, Nat.reduceMul, Nat.reduceAdd, String.reduceEq]
    refine hQ .normal _ ?_; clear hQ Q
    refine TS.seq (TS.of [] fun Q hQ => ?_)
    simp only [go_sem, Nat.reduceEqDiff, Nat.reduceBEq, Int.reduceToNat, Int.reduceLT, Int.reduceLE, Int.reduceEq, Nat.reduceLeDiff, Nat.reduceLT, Nat.reduceMul, Nat.reduceAdd, String.reduceEq, encD]
    refine cal_eq (hr _) ?_
    simp only [go_sem, Nat.reduceEqDiff, Nat.reduceBEq, Int.reduceToNat, Int.reduceLT, Int.reduceLE, Int.reduceEq, Nat.reduceLeDiff, Nat.reduceLT, Nat.reduceMul, Nat.reduceAdd, String.reduceEq]
    refine hQ .normal _ ?_; clear hQ Q
    refine TS.of [] fun Q hQ => ?_
    simp only [go_sem, Nat.reduceEqDiff, Nat.reduceBEq, Int.reduceToNat, Int.reduceLT, Int.reduceLE, Int.reduceEq, Nat.reduceLeDiff, Nat.reduceLT, Nat.reduceMul, Nat.reduceAdd, String.reduceEq, info_ii, eq_self, decide_true]
    refine hQ .ret _ ?_; clear hQ Q; refine post_ret _ _ (bb true) ?_ ?_ (DropW.tail0 _ rfl) ⟨rfl, rfl⟩
    · simp only [go_sem, Nat.reduceEqDiff, Nat.reduceBEq, Int.reduceToNat, Int.reduceLT, Int.reduceLE, Int.reduceEq, Nat.reduceLeDiff, Nat.reduceLT, Nat.reduceMul, Nat.reduceAdd, String.reduceEq]
    · rfl
  · refine TS.seq (TS.of [] fun Q hQ => ?_)
    simp only [go_sem, Nat.reduceEqDiff, Nat.reduceBEq, Int.reduceToNat, Int.reduceLT, Int.reduceLE, Int.reduceEq, Nat.reduceLeDiff, Nat.reduceLT, Nat.reduceMul, Nat.reduceAdd, String.reduceEq]
    refine cal_eq (hp _) ?_
    simp only [go_sem, Nat.reduceEqDiff, Nat.reduceBEq, Int.reduceToNat, Int.reduceLT, Int.reduceLE, Int.reduceEq, Nat.reduceLeDiff, Nat.reduceLT, Nat.reduceMul, Nat.reduceAdd, String.reduceEq, encD]
    refine hQ .normal _ ?_; clear hQ Q
    refine TS.of [] fun Q hQ => ?_
    simp only [go_sem, Nat.reduceEqDiff, Nat.reduceBEq, Int.reduceToNat, Int.reduceLT, Int.reduceLE, Int.reduceEq, Nat.reduceLeDiff, Nat.reduceLT, Nat.reduceMul, Nat.reduceAdd, String.reduceEq, h]
    refine hQ .ret _ ?_; clear hQ Q; refine post_ret _ _ (bb true) ?_ ?_ (DropW.tail0 _ rfl) ⟨rfl, rfl⟩
    · simp only [go_sem, Nat.reduceEqDiff, Nat.reduceBEq, Int.reduceToNat, Int.reduceLT, Int.reduceLE, Int.reduceEq, Nat.reduceLeDiff, Nat.reduceLT, Nat.reduceMul, Nat.reduceAdd, String.reduceEq]
    · rfl
end Go.Proofs.Ytphjldhdnmoolaa.A
/- The walks of some functions over the abstract machine. -/
namespace Go.Proofs.Ytphjldhdnmoolaa.A
open Go
/-! what the modes say -/
theorem failF_nz (st : Int × Int) : (failF st 11 0).1 ≠ 0 := by unfold failF; split; decide; assumption
theorem rcheck_code {d : Def} (h : (rcheck d).2.1 ≠ 0) : (rcheck d).1 = Info0 := by
  unfold rcheck at *
  split
  · rfl
  · rename_i h8
    split
    · rfl
    · rename_i hf
      rw [if_neg h8, if_neg hf] at h
      exact absurd rfl h
theorem rcheck_fine {d : Def} (hd : FitD d) (ho : DefOK d) (h : (rcheck d).2.1 = 0) : rcheck d = (⟨rMode d, (rG d).1, (rB d).2.dl.length, !hasTs 2 2 d.body && !readsTs d.body⟩, 0, 0) ∧ (0 ≤ (rG d).1 ∧ (rG d).1 ≤ 2048) ∧ (rB d).2.dl.length ≤ 16 := by
  have hs := check_same hd ho
  have hr : rcheck d = (⟨rMode d, (rG d).1, (rB d).2.dl.length, !hasTs 2 2 d.body && !readsTs d.body⟩, 0, 0) ∧ ¬ (rF d).1 ≠ 0 := by
    unfold rcheck at *
    split
    · rename_i h8; rw [if_pos h8] at h; exact absurd h (by decide)
    · rename_i h8
      rw [if_neg h8] at h
      split
      · rename_i hf; rw [if_pos hf] at h; exact absurd h hf
      · rename_i hf; exact ⟨rfl, hf⟩
  refine ⟨hr.1, ⟨?_, ?_⟩, ?_⟩
  · rcases hs.2.2 with h3 | ⟨c, a, hc, h3⟩
    · exact h3.2
    · have h2 := hs.2.1
      rw [h3] at h2
      exact absurd ((congrArg Prod.fst h2).trans h) hc
  · refine Classical.byContradiction fun h2 => hr.2 ?_
    unfold rF; rw [if_pos (by omega)]; exact failF_nz _
  · have h1 := declK_dl d.params [] KS0
    have h2 := blockK_dl d.body (rP d).1 ⟨(rP d).2.dl, (rN d).2⟩
    exact h2.2 (h1.2.1 (by simp))
theorem mode_says (b22 b25 b55 ro : Bool) : (b25 = false → (if b25 then (if !b22 && (!b55 && !ro) then 2 else 3) else 1 : Int) = 1) ∧ (b25 = true → ((if b25 then (if !b22 && (!b55 && !ro) then 2 else 3) else 1 : Int) = 2 ∧ ro = false ∧ b55 = false) ∨ (if b25 then (if !b22 && (!b55 && !ro) then 2 else 3) else 1 : Int) = 3) := by
  revert b22 b25 b55 ro
  decide
set_option maxRecDepth 100000 in
set_option maxHeartbeats 4000000 in
theorem modes_law (m : Mem) (s : Bytes) : Sim 6 [ss s] m (fun r m' => r = bb true ∧ m' = m) := by
  have hp := fun m => parse_any m s
  have hc := fun m => checked_any m s
  refine Sim.ofS 94 [.tmp 2] Try.func6 rfl rfl rfl (by simp) fun wr => ?_
  simp only [go_sem, Nat.reduceEqDiff, Nat.reduceBEq, Int.reduceToNat, Int.reduceLT, Int.reduceLE, Int.reduceEq, Nat.reduceLeDiff, Nat.reduceLT, Nat.reduceMul, Nat.reduceAdd, String.reduceEq]
  refine TS.seq (TS.of [] fun Q hQ => ?_)
  simp only [go_sem, Nat.reduceEqDiff, Nat.reduceBEq, Int.reduceToNat, Int.reduceLT, Int.reduceLE, Int.reduceEq, Nat.reduceLeDiff, Nat.reduceLT, Nat.reduceMul, Nat.reduceAdd, String.reduceEq]
  refine hQ .normal _ ?_; clear hQ Q
  refine TS.seq (TS.of [] fun Q hQ => ?_)
  simp only [go_sem, Nat.reduceEqDiff, Nat.reduceBEq, Int.reduceToNat, Int.reduceLT, Int.reduceLE, Int.reduceEq, Nat.reduceLeDiff, Nat.reduceLT, Nat.reduceMul, Nat.reduceAdd, String.reduceEq]
  refine cal_eq (alive8_sim _) ?_
  simp only [go_sem, Nat.reduceEqDiff, Nat.reduceBEq, Int.reduceToNat, Int.reduceLT, Int.reduceLE, Int.reduceEq, Nat.reduceLeDiff, Nat.reduceLT, Nat.reduceMul, Nat.reduceAdd, String.reduceEq]
  refine hQ .normal _ ?_; clear hQ Q
  by_cases h : (parse s).2.1 = 0
  rotate_left
  · rw [checkedP_no h] at hc
    refine TS.seq (TS.of [] fun Q hQ => ?_)
    simp only [go_sem, Nat.reduceEqDiff, Nat.reduceBEq, Int.reduceToNat, Int.reduceLT, Int.reduceLE, Int.reduceEq, Nat.reduceLeDiff, Nat.reduceLT, Nat.reduceMul, Nat.reduceAdd, String.reduceEq]
    refine cal_eq (hc _) ?_
    simp only [go_sem, Nat.reduceEqDiff, Nat.reduceBEq, Int.reduceToNat, Int.reduceLT, Int.reduceLE, Int.reduceEq, Nat.reduceLeDiff, Nat.reduceLT, Nat.reduceMul, Nat.reduceAdd, String.reduceEq]
    refine hQ .normal _ ?_; clear hQ Q
    refine TS.of [] fun Q hQ => ?_
    simp only [go_sem, Nat.reduceEqDiff, Nat.reduceBEq, Int.reduceToNat, Int.reduceLT, Int.reduceLE, Int.reduceEq, Nat.reduceLeDiff, Nat.reduceLT, Nat.reduceMul, Nat.reduceAdd, String.reduceEq, info_ii, eq_self, decide_true]
    refine hQ .ret _ ?_; clear hQ Q; refine post_ret _ _ (bb true) ?_ ?_ (DropW.tail0 _ rfl) ⟨rfl, rfl⟩
    · simp only [go_sem, Nat.reduceEqDiff, Nat.reduceBEq, Int.reduceToNat, Int.reduceLT, Int.reduceLE, Int.reduceEq, Nat.reduceLeDiff, Nat.reduceLT, Nat.reduceMul, Nat.reduceAdd, String.reduceEq]
    · rfl
  have hfit := parse_fit h
  have hdo := parse_ok h
  rw [checkedP_ok h] at hc
  by_cases hcode : (rcheck (parse s).1).2.1 = 0
  rotate_left
  · rw [rcheck_code hcode] at hc
    refine TS.seq (TS.of [] fun Q hQ => ?_)
    simp only [go_sem, Nat.reduceEqDiff, Nat.reduceBEq, Int.reduceToNat, Int.reduceLT, Int.reduceLE, Int.reduceEq, Nat.reduceLeDiff, Nat.reduceLT, Nat.reduceMul, Nat.reduceAdd, String.reduceEq]
    refine cal_eq (hc _) ?_
    simp only [go_sem, Nat.reduceEqDiff, Nat.reduceBEq, Int.reduceToNat, Int.reduceLT, Int.reduceLE, Int.reduceEq, Nat.reduceLeDiff, Nat.reduceLT, Nat.reduceMul, Nat.reduceAdd, String.reduceEq]
    refine hQ .normal _ ?_; clear hQ Q
    refine TS.of [] fun Q hQ => ?_
    simp only [go_sem, Nat.reduceEqDiff, Nat.reduceBEq, Int.reduceToNat, Int.reduceLT, Int.reduceLE, Int.reduceEq, Nat.reduceLeDiff, Nat.reduceLT, Nat.reduceMul, Nat.reduceAdd, String.reduceEq, info_ii, eq_self, decide_true, hcode]
    refine hQ .ret _ ?_; clear hQ Q; refine post_ret _ _ (bb true) ?_ ?_ (DropW.tail0 _ rfl) ⟨rfl, rfl⟩
    · simp only [go_sem, Nat.reduceEqDiff, Nat.reduceBEq, Int.reduceToNat, Int.reduceLT, Int.reduceLE, Int.reduceEq, Nat.reduceLeDiff, Nat.reduceLT, Nat.reduceMul, Nat.reduceAdd, String.reduceEq]
    · rfl
  obtain ⟨hr, ⟨hs0, hs1⟩, hn⟩ := rcheck_fine hfit hdo hcode
  rw [hr] at hc
  rw [h] at hp
  have hsize := hdo.size
  have c22 := fun m => hasS_sim 2 2 (szt (parse s).1.body) (by omega) (parse s).1.body (Nat.le_refl _) m
  have c25 := fun m => hasS_sim 2 5 (szt (parse s).1.body) (by omega) (parse s).1.body (Nat.le_refl _) m
  have c55 := fun m => hasS_sim 5 5 (szt (parse s).1.body) (by omega) (parse s).1.body (Nat.le_refl _) m
  have crd := fun m => reads_sim (szt (parse s).1.body) (by omega) (parse s).1.body (Nat.le_refl _) m
  have ccn := fun m => cells_sim m (szs (parse s).1.needs) (by omega) (parse s).1.needs (Nat.le_refl _)
  have ccg := fun m => cells_sim m (szs (parse s).1.give) (by omega) (parse s).1.give (Nat.le_refl _)
  rw [rMode] at hc
  generalize hasTs 2 2 (parse s).1.body = b22 at c22 hc
  generalize hasTs 2 5 (parse s).1.body = b25 at c25 hc
  generalize hasTs 5 5 (parse s).1.body = b55 at c55 hc
  generalize readsTs (parse s).1.body = rd at crd hc
  generalize cells (parse s).1.needs = cn at ccn hc
  generalize cells (parse s).1.give = cg at ccg hc
  have hs0' : (0 : Int) ≤ (rG (parse s).1).1 := hs0
  have hn' : (((rB (parse s).1).2.dl.length : Nat) : Int) ≤ 16 := by omega
  generalize (((rB (parse s).1).2.dl.length : Nat) : Int) = nm at hc hn'
  generalize (rG (parse s).1).1 = stp at hc hs0 hs1 hs0'
  clear hr hcode hfit hdo h hn
  generalize (parse s).2.2 = pl at hp
  generalize (parse s).1 = d at *
  refine TS.seq (TS.of [] fun Q hQ => ?_)
  simp only [go_sem, Nat.reduceEqDiff, Nat.reduceBEq, Int.reduceToNat, Int.reduceLT, Int.reduceLE, Int.reduceEq, Nat.reduceLeDiff, Nat.reduceLT, Nat.reduceMul, Nat.reduceAdd, String.reduceEq]
  refine cal_eq (hc _) ?_
  simp only [go_sem, Nat.reduceEqDiff, Nat.reduceBEq, Int.reduceToNat, Int.reduceLT, Int.reduceLE, Int.reduceEq, Nat.reduceLeDiff, Nat.reduceLT, Nat.reduceMul, Nat.reduceAdd, String.reduceEq]
  refine hQ .normal _ ?_; clear hQ Q
  refine TS.seq (TS.of [] fun Q hQ => ?_)
  simp only [go_sem, Nat.reduceEqDiff, Nat.reduceBEq, Int.reduceToNat, Int.reduceLT, Int.reduceLE, Int.reduceEq, Nat.reduceLeDiff, Nat.reduceLT, Nat.reduceMul, Nat.reduceAdd, String.reduceEq]
  refine hQ .normal _ ?_; clear hQ Q
  refine TS.seq (TS.of [] fun Q hQ => ?_)
  simp only [go_sem, Nat.reduceEqDiff, Nat.reduceBEq, Int.reduceToNat, Int.reduceLT, Int.reduceLE, Int.reduceEq, Nat.reduceLeDiff, Nat.reduceLT, Nat.reduceMul, Nat.reduceAdd, String.reduceEq]
  refine cal_eq (hp _) ?_
  simp only [go_sem, Nat.reduceEqDiff, Nat.reduceBEq, Int.reduceToNat, Int.reduceLT, Int.reduceLE, Int.reduceEq, Nat.reduceLeDiff, Nat.reduceLT, Nat.reduceMul, Nat.reduceAdd, String.reduceEq, encD]
  refine hQ .normal _ ?_; clear hQ Q
  refine TS.seq (TS.of [] fun Q hQ => ?_)
  simp only [go_sem, Nat.reduceEqDiff, Nat.reduceBEq, Int.reduceToNat, Int.reduceLT, Int.reduceLE, Int.reduceEq, Nat.reduceLeDiff, Nat.reduceLT, Nat.reduceMul, Nat.reduceAdd, String.reduceEq]
  refine cal_eq (c25 _) ?_
  simp only [go_sem, Nat.reduceEqDiff, Nat.reduceBEq, Int.reduceToNat, Int.reduceLT, Int.reduceLE, Int.reduceEq, Nat.reduceLeDiff, Nat.reduceLT, Nat.reduceMul, Nat.reduceAdd, String.reduceEq]
  refine hQ .normal _ ?_; clear hQ Q
  obtain ⟨tn, htn⟩ : ∃ tn, tn = (!b22 && !rd) := ⟨_, rfl⟩
  obtain ⟨md, hmd⟩ : ∃ md : Int, md = (if b25 then (if !b22 && (!b55 && !(rd || (cn || cg))) then 2 else 3) else 1) := ⟨_, rfl⟩
  rw [← htn, ← hmd]
  refine TS.seq (TS.mono (Q := fun e s => e = .normal ∧ (s.t 3 = .ptr m.objs.length 0 ∧ s.t 7 = .ptr (m.objs.length + 1) 0 ∧ s.t 10 = bb b25 ∧ s.t 11 = bb (rd || (cn || cg))) ∧ s.m = ⟨m.objs ++ [.cells [ii md, ii stp, ii nm, bb tn], .cells [ss d.name, slS d.params, slE d.needs, slT d.body, slE d.give]], m.rows⟩) ?_ ?_)
  · cases rd with
    | true =>
      refine TS.of [] fun Q hQ => ?_
      simp only [go_sem, Nat.reduceEqDiff, Nat.reduceBEq, Int.reduceToNat, Int.reduceLT, Int.reduceLE, Int.reduceEq, Nat.reduceLeDiff, Nat.reduceLT, Nat.reduceMul, Nat.reduceAdd, String.reduceEq]
      refine cal_eq (crd _) ?_
      simp only [go_sem, Nat.reduceEqDiff, Nat.reduceBEq, Int.reduceToNat, Int.reduceLT, Int.reduceLE, Int.reduceEq, Nat.reduceLeDiff, Nat.reduceLT, Nat.reduceMul, Nat.reduceAdd, String.reduceEq]
      refine hQ .normal _ ?_; clear hQ Q
      exact ⟨rfl, by simp [upd_apply], rfl⟩
    | false =>
      cases cn with
      | true =>
        refine TS.of [] fun Q hQ => ?_
        simp only [go_sem, Nat.reduceEqDiff, Nat.reduceBEq, Int.reduceToNat, Int.reduceLT, Int.reduceLE, Int.reduceEq, Nat.reduceLeDiff, Nat.reduceLT, Nat.reduceMul, Nat.reduceAdd, String.reduceEq]
        refine cal_eq (crd _) ?_
        simp only [go_sem, Nat.reduceEqDiff, Nat.reduceBEq, Int.reduceToNat, Int.reduceLT, Int.reduceLE, Int.reduceEq, Nat.reduceLeDiff, Nat.reduceLT, Nat.reduceMul, Nat.reduceAdd, String.reduceEq]
        refine cal_eq (ccn _) ?_
        simp only [go_sem, Nat.reduceEqDiff, Nat.reduceBEq, Int.reduceToNat, Int.reduceLT, Int.reduceLE, Int.reduceEq, Nat.reduceLeDiff, Nat.reduceLT, Nat.reduceMul, Nat.reduceAdd, String.reduceEq]
        refine hQ .normal _ ?_; clear hQ Q
        exact ⟨rfl, by simp [upd_apply], rfl⟩
      | false =>
        refine TS.of [] fun Q hQ => ?_
        simp only [go_sem, Nat.reduceEqDiff, Nat.reduceBEq, Int.reduceToNat, Int.reduceLT, Int.reduceLE, Int.reduceEq, Nat.reduceLeDiff, Nat.reduceLT, Nat.reduceMul, Nat.reduceAdd, String.reduceEq]
        refine cal_eq (crd _) ?_
        simp only [go_sem, Nat.reduceEqDiff, Nat.reduceBEq, Int.reduceToNat, Int.reduceLT, Int.reduceLE, Int.reduceEq, Nat.reduceLeDiff, Nat.reduceLT, Nat.reduceMul, Nat.reduceAdd, String.reduceEq]
        refine cal_eq (ccn _) ?_
        simp only [go_sem, Nat.reduceEqDiff, Nat.reduceBEq, Int.reduceToNat, Int.reduceLT, Int.reduceLE, Int.reduceEq, Nat.reduceLeDiff, Nat.reduceLT, Nat.reduceMul, Nat.reduceAdd, String.reduceEq]
        refine cal_eq (ccg _) ?_
        simp only [go_sem, Nat.reduceEqDiff, Nat.reduceBEq, Int.reduceToNat, Int.reduceLT, Int.reduceLE, Int.reduceEq, Nat.reduceLeDiff, Nat.reduceLT, Nat.reduceMul, Nat.reduceAdd, String.reduceEq]
        refine hQ .normal _ ?_; clear hQ Q
        exact ⟨rfl, by simp [upd_apply], rfl⟩
  rintro e s ⟨rfl, ⟨i3, i7, i10, i11⟩, hm⟩
  have hmode := mode_says b22 b25 b55 (rd || (cn || cg))
  rw [← hmd] at hmode
  generalize (rd || (cn || cg)) = ro at hmode i11
  have htn2 : tn = true → b22 = false := by rw [htn]; cases b22 <;> simp
  clear hmd htn hc crd ccn ccg
  refine TS.seq (TS.mono (Q := fun e s => e = .normal ∧ (s.t 3 = .ptr m.objs.length 0 ∧ s.t 7 = .ptr (m.objs.length + 1) 0) ∧ s.m = ⟨m.objs ++ [.cells [ii md, ii stp, ii nm, bb tn], .cells [ss d.name, slS d.params, slE d.needs, slT d.body, slE d.give]], m.rows⟩) ?_ ?_)
  · cases b25 with
    | false =>
      obtain rfl := hmode.1 rfl
      refine TS.of [] fun Q hQ => ?_
      simp only [go_sem, Nat.reduceEqDiff, Nat.reduceBEq, Int.reduceToNat, Int.reduceLT, Int.reduceLE, Int.reduceEq, Nat.reduceLeDiff, Nat.reduceLT, Nat.reduceMul, Nat.reduceAdd, String.reduceEq, i3, i7, i10, i11, hm, Bool.true_eq_false, Bool.false_eq_true, decide_false, Bool.not_false]
      refine hQ .normal _ ?_; clear hQ Q
      exact ⟨rfl, by simp [upd_apply, i3, i7], by first | rfl | exact hm⟩
    | true =>
      rcases hmode.2 rfl with ⟨rfl, rfl, rfl⟩ | rfl
      · refine TS.of [] fun Q hQ => ?_
        simp only [go_sem, Nat.reduceEqDiff, Nat.reduceBEq, Int.reduceToNat, Int.reduceLT, Int.reduceLE, Int.reduceEq, Nat.reduceLeDiff, Nat.reduceLT, Nat.reduceMul, Nat.reduceAdd, String.reduceEq, i3, i7, i10, i11, hm, Bool.true_eq_false, Bool.false_eq_true, decide_false, Bool.not_false]
        refine cal_eq (c55 _) ?_
        simp only [go_sem, Nat.reduceEqDiff, Nat.reduceBEq, Int.reduceToNat, Int.reduceLT, Int.reduceLE, Int.reduceEq, Nat.reduceLeDiff, Nat.reduceLT, Nat.reduceMul, Nat.reduceAdd, String.reduceEq, i3, i7, i10, i11]
        refine hQ .normal _ ?_; clear hQ Q
        exact ⟨rfl, by simp [upd_apply, i3, i7], by first | rfl | exact hm⟩
      · refine TS.of [] fun Q hQ => ?_
        simp only [go_sem, Nat.reduceEqDiff, Nat.reduceBEq, Int.reduceToNat, Int.reduceLT, Int.reduceLE, Int.reduceEq, Nat.reduceLeDiff, Nat.reduceLT, Nat.reduceMul, Nat.reduceAdd, String.reduceEq, i3, i7, i10, i11, hm, Bool.true_eq_false, Bool.false_eq_true, decide_false, Bool.not_false]
        refine hQ .normal _ ?_; clear hQ Q
        exact ⟨rfl, by simp [upd_apply, i3, i7], by first | rfl | exact hm⟩
  clear i3 i7 i10 i11 hm
  rintro e s ⟨rfl, ⟨i3, i7⟩, hm⟩
  cases tn with
  | false =>
    refine TS.of [] fun Q hQ => ?_
    simp only [go_sem, Nat.reduceEqDiff, Nat.reduceBEq, Int.reduceToNat, Int.reduceLT, Int.reduceLE, Int.reduceEq, Nat.reduceLeDiff, Nat.reduceLT, Nat.reduceMul, Nat.reduceAdd, String.reduceEq, i3, i7, hm, hs0', hs1, hn']
    refine hQ .ret _ ?_; clear hQ Q; refine post_ret _ _ (bb true) ?_ ?_ (DropW.tail0 _ rfl) ⟨rfl, rfl⟩
    · simp only [go_sem, Nat.reduceEqDiff, Nat.reduceBEq, Int.reduceToNat, Int.reduceLT, Int.reduceLE, Int.reduceEq, Nat.reduceLeDiff, Nat.reduceLT, Nat.reduceMul, Nat.reduceAdd, String.reduceEq]
    · rfl
  | true =>
    obtain rfl := htn2 rfl
    refine TS.of [] fun Q hQ => ?_
    simp only [go_sem, Nat.reduceEqDiff, Nat.reduceBEq, Int.reduceToNat, Int.reduceLT, Int.reduceLE, Int.reduceEq, Nat.reduceLeDiff, Nat.reduceLT, Nat.reduceMul, Nat.reduceAdd, String.reduceEq, i3, i7, hm, hs0', hs1, hn']
    refine cal_eq (c22 _) ?_
    simp only [go_sem, Nat.reduceEqDiff, Nat.reduceBEq, Int.reduceToNat, Int.reduceLT, Int.reduceLE, Int.reduceEq, Nat.reduceLeDiff, Nat.reduceLT, Nat.reduceMul, Nat.reduceAdd, String.reduceEq, i3, i7]
    refine hQ .ret _ ?_; clear hQ Q; refine post_ret _ _ (bb true) ?_ ?_ (DropW.tail0 _ rfl) ⟨rfl, rfl⟩
    · simp only [go_sem, Nat.reduceEqDiff, Nat.reduceBEq, Int.reduceToNat, Int.reduceLT, Int.reduceLE, Int.reduceEq, Nat.reduceLeDiff, Nat.reduceLT, Nat.reduceMul, Nat.reduceAdd, String.reduceEq]
    · rfl
end Go.Proofs.Ytphjldhdnmoolaa.A
