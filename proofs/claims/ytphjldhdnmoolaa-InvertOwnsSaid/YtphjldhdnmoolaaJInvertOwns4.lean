/- Joined: I9, O10, C0 -/
import Derived.Test.YtphjldhdnmoolaaJInvertOwns3
import Derived.Below
import Derived.ProofKit
import Derived.OpenShut
import Derived.ShutString
import Derived.ChangeOld
import Derived.ChangeMaps5
import Derived.SizedLaws
import Derived.Lib.SmallJoins
import Derived.RowKit
set_option linter.unusedVariables false
set_option linter.unusedSimpArgs false
/- The walks of some functions over the abstract machine. -/
namespace Go.Proofs.Ytphjldhdnmoolaa.A
open Go
/-! the document's comparison, of what is the same -/
def EqE (N : Nat) : Prop := ∀ (l : List Expr) (m : Mem), szs l ≤ N → Sim 69 [slE l, slE l, bb true] m (fun r m' => r = bb true ∧ m' = m)
set_option maxRecDepth 100000 in
set_option maxHeartbeats 4000000 in
theorem eqE_step {N : Nat} (hB : N < 900000) (ih : ∀ M, M < N → EqE M) : EqE N := by
  intro l m hN
  have hll := szs_len l
  refine Sim.ofS 87 [.tmp 6] Try.func69 rfl rfl rfl (by simp) fun wr => ?_
  simp only [go_sem, Nat.reduceEqDiff, Nat.reduceBEq, Int.reduceToNat, Int.reduceLT, Int.reduceLE, Int.reduceEq, Nat.reduceLeDiff, Nat.reduceLT, Nat.reduceMul, Nat.reduceAdd, String.reduceEq]
  refine TS.seq (TS.of [] fun Q hQ => ?_)
  simp only [go_sem, Nat.reduceEqDiff, Nat.reduceBEq, Int.reduceToNat, Int.reduceLT, Int.reduceLE, Int.reduceEq, Nat.reduceLeDiff, Nat.reduceLT, Nat.reduceMul, Nat.reduceAdd, String.reduceEq]
  refine hQ .normal _ ?_; clear hQ Q
  refine TS.seq (TS.of [] fun Q hQ => ?_)
  simp only [go_sem, Nat.reduceEqDiff, Nat.reduceBEq, Int.reduceToNat, Int.reduceLT, Int.reduceLE, Int.reduceEq, Nat.reduceLeDiff, Nat.reduceLT, Nat.reduceMul, Nat.reduceAdd, String.reduceEq, eq_self, decide_true, Bool.not_true]
  refine hQ .normal _ ?_; clear hQ Q
  refine TS.seq (TS.seq (TS.of [] fun Q hQ => ?_))
  simp only [go_sem, Nat.reduceEqDiff, Nat.reduceBEq, Int.reduceToNat, Int.reduceLT, Int.reduceLE, Int.reduceEq, Nat.reduceLeDiff, Nat.reduceLT, Nat.reduceMul, Nat.reduceAdd, String.reduceEq]
  refine hQ .normal _ ?_; clear hQ Q
  refine TS.block (TS.loop (α := Nat) (fun k => [(0, slE l), (1, slE l), (2, bb true), (7, ii k)]) (fun _ => m) (fun k => k ≤ l.length) (fun k => l.length - k) 0 (by simp) ⟨by simp [Has, upd_apply, argsT], rfl, Nat.zero_le _⟩ ?_)
  rintro k st hH hm hk
  simp only [Has, List.mem_cons, List.not_mem_nil, or_false, forall_eq_or_imp, forall_eq] at hH; obtain ⟨i0, i1, i2, i7⟩ := hH
  by_cases hlt : k < l.length
  · obtain ⟨x, hx⟩ : ∃ x, l[k]? = some x := ⟨_, List.getElem?_eq_getElem hlt⟩
    have hat := encEs_at hx
    have hlt5 : k * 5 < (encEs l).length := by rw [encEs_length]; omega
    have hw := wrap_succ hlt (by omega)
    have hszx := szs_at hx
    have hsub := fun m => ih (szs x.a) (by omega) x.a m (Nat.le_refl _)
    refine TS.of [] fun Q hQ => ?_
    simp only [go_sem, Nat.reduceEqDiff, Nat.reduceBEq, Int.reduceToNat, Int.reduceLT, Int.reduceLE, Int.reduceEq, Nat.reduceLeDiff, Nat.reduceLT, Nat.reduceMul, Nat.reduceAdd, String.reduceEq, i0, i1, i2, i7, hm, hlt, hat, hlt5, eq_self, decide_true, Bool.not_true]
    refine drn_of ⟨[23, 28, 35, 40, 48, 53, 63, 68, 77, 82], [], []⟩ [0, 0, 3, 7, 15, 0, 0, 96, 224, 480, 1023, 2047, 4095, 4095, 16383, 32767, 65535, 4095, 4095, 397311, 921599, 1970175, 4194303, 8388607, 16777215, 33554431, 33554431, 134217727, 268435455, 536870911, 33554431, 33554431, 3254779903, 7549747199, 16139681791, 34359738367, 68719476735, 137438953471, 274877906943, 549755813887, 1099511627775, 1099511627775, 4398046511103, 8796093022207, 17592186044415, 1099511627775, 1099511627775, 106652627894271, 247390116249599, 528865092960255, 1125899906842623, 2251799813685247, 4503599627370495, 9007199254740991, 18014398509481983, 18014398509481983, 72057594037927935, 144115188075855871, 288230376151711743, 18014398509481983, 18014398509481983, 1747396655419752447, 4053239664633446399, 8664925683060834303, 18014398509481983, 36893488147419103231, 73786976294838206463, 147573952589676412927] (by kernel_rfl) ?_
    simp only [List.append_eq, List.cons_append, List.nil_append]
    simp only [go_sem, Nat.reduceEqDiff, Nat.reduceBEq, Int.reduceToNat, Int.reduceLT, Int.reduceLE, Int.reduceEq, Nat.reduceLeDiff, Nat.reduceLT, Nat.reduceMul, Nat.reduceAdd, String.reduceEq, i0, i1, i2, i7, hm, hlt, hat, hlt5, eq_self, decide_true, Bool.not_true]
    refine cald_eq (hsub _) ?_
    simp only [go_sem, Nat.reduceEqDiff, Nat.reduceBEq, Int.reduceToNat, Int.reduceLT, Int.reduceLE, Int.reduceEq, Nat.reduceLeDiff, Nat.reduceLT, Nat.reduceMul, Nat.reduceAdd, String.reduceEq, i0, i1, i2, i7, hw]
    refine hQ .normal _ ?_; clear hQ Q
    refine ⟨_, _, k + 1, DropW.refl m, ?_, by omega, by omega⟩
    simp [upd_apply, i0, i1, i2, IV.np, SK.np, npEs]
  · refine TS.of [] fun Q hQ => ?_
    simp only [go_sem, Nat.reduceEqDiff, Nat.reduceBEq, Int.reduceToNat, Int.reduceLT, Int.reduceLE, Int.reduceEq, Nat.reduceLeDiff, Nat.reduceLT, Nat.reduceMul, Nat.reduceAdd, String.reduceEq, i0, i1, i2, i7, hm, hlt]
    refine hQ (.exit 0) _ ?_; clear hQ Q
    refine TS.of [] fun Q hQ => ?_
    simp only [go_sem, Nat.reduceEqDiff, Nat.reduceBEq, Int.reduceToNat, Int.reduceLT, Int.reduceLE, Int.reduceEq, Nat.reduceLeDiff, Nat.reduceLT, Nat.reduceMul, Nat.reduceAdd, String.reduceEq]
    refine hQ .ret _ ?_; exact post_ret _ _ _ rfl rfl (DropW.refl _) ⟨rfl, rfl⟩
theorem eqE_all : ∀ N, N < 900000 → EqE N := by
  intro N
  induction N using Nat.strongRecOn with
  | ind N ih => intro hB; exact eqE_step hB fun M hM => ih M hM (by omega)
def EqT (N : Nat) : Prop := ∀ (l : List Stmt) (m : Mem), szt l ≤ N → Sim 70 [slT l, slT l, bb true] m (fun r m' => r = bb true ∧ m' = m)
set_option maxRecDepth 100000 in
set_option maxHeartbeats 4000000 in
theorem eqT_step {N : Nat} (hB : N < 900000) (ih : ∀ M, M < N → EqT M) : EqT N := by
  intro l m hN
  have hll := szt_len l
  refine Sim.ofS 115 [.tmp 6] Try.func70 rfl rfl rfl (by simp) fun wr => ?_
  simp only [go_sem, Nat.reduceEqDiff, Nat.reduceBEq, Int.reduceToNat, Int.reduceLT, Int.reduceLE, Int.reduceEq, Nat.reduceLeDiff, Nat.reduceLT, Nat.reduceMul, Nat.reduceAdd, String.reduceEq]
  refine TS.seq (TS.of [] fun Q hQ => ?_)
  simp only [go_sem, Nat.reduceEqDiff, Nat.reduceBEq, Int.reduceToNat, Int.reduceLT, Int.reduceLE, Int.reduceEq, Nat.reduceLeDiff, Nat.reduceLT, Nat.reduceMul, Nat.reduceAdd, String.reduceEq]
  refine hQ .normal _ ?_; clear hQ Q
  refine TS.seq (TS.of [] fun Q hQ => ?_)
  simp only [go_sem, Nat.reduceEqDiff, Nat.reduceBEq, Int.reduceToNat, Int.reduceLT, Int.reduceLE, Int.reduceEq, Nat.reduceLeDiff, Nat.reduceLT, Nat.reduceMul, Nat.reduceAdd, String.reduceEq, eq_self, decide_true, Bool.not_true]
  refine hQ .normal _ ?_; clear hQ Q
  refine TS.seq (TS.seq (TS.of [] fun Q hQ => ?_))
  simp only [go_sem, Nat.reduceEqDiff, Nat.reduceBEq, Int.reduceToNat, Int.reduceLT, Int.reduceLE, Int.reduceEq, Nat.reduceLeDiff, Nat.reduceLT, Nat.reduceMul, Nat.reduceAdd, String.reduceEq]
  refine hQ .normal _ ?_; clear hQ Q
  refine TS.block (TS.loop (α := Nat) (fun k => [(0, slT l), (1, slT l), (2, bb true), (7, ii k)]) (fun _ => m) (fun k => k ≤ l.length) (fun k => l.length - k) 0 (by simp) ⟨by simp [Has, upd_apply, argsT], rfl, Nat.zero_le _⟩ ?_)
  rintro k st hH hm hk
  simp only [Has, List.mem_cons, List.not_mem_nil, or_false, forall_eq_or_imp, forall_eq] at hH; obtain ⟨i0, i1, i2, i7⟩ := hH
  by_cases hlt : k < l.length
  · obtain ⟨x, hx⟩ : ∃ x, l[k]? = some x := ⟨_, List.getElem?_eq_getElem hlt⟩
    have hat := encTs_at hx
    have hlt7 : k * 7 < (encTs l).length := by rw [encTs_length]; omega
    have hw := wrap_succ hlt (by omega)
    have hszx := szT_at hx
    have hsz := szT_eq x
    have he := fun m => eqE_all (szs x.x) (by omega) x.x m (Nat.le_refl _)
    have hb := fun m => ih (szt x.b) (by omega) x.b m (Nat.le_refl _)
    have hs := fun m => ih (szt x.e) (by omega) x.e m (Nat.le_refl _)
    refine TS.of [] fun Q hQ => ?_
    simp only [go_sem, Nat.reduceEqDiff, Nat.reduceBEq, Int.reduceToNat, Int.reduceLT, Int.reduceLE, Int.reduceEq, Nat.reduceLeDiff, Nat.reduceLT, Nat.reduceMul, Nat.reduceAdd, String.reduceEq, i0, i1, i2, i7, hm, hlt, hat, hlt7, eq_self, decide_true, Bool.not_true]
    refine drn_of ⟨[23, 28, 35, 40, 48, 53, 63, 68], [], []⟩ [0, 0, 3, 7, 15, 0, 0, 96, 224, 480, 1023, 2047, 4095, 4095, 16383, 32767, 65535, 4095, 4095, 397311, 921599, 1970175, 4194303, 8388607, 16777215, 33554431, 33554431, 134217727, 268435455, 536870911, 33554431, 33554431, 3254779903, 7549747199, 16139681791, 34359738367, 68719476735, 137438953471, 274877906943, 549755813887, 1099511627775, 1099511627775, 4398046511103, 8796093022207, 17592186044415, 1099511627775, 1099511627775, 106652627894271, 247390116249599, 528865092960255, 1125899906842623, 2251799813685247, 4503599627370495] (by kernel_rfl) ?_
    simp only [go_sem, Nat.reduceEqDiff, Nat.reduceBEq, Int.reduceToNat, Int.reduceLT, Int.reduceLE, Int.reduceEq, Nat.reduceLeDiff, Nat.reduceLT, Nat.reduceMul, Nat.reduceAdd, String.reduceEq, i0, i1, i2, i7, hm, hlt, hat, hlt7, eq_self, decide_true, Bool.not_true]
    refine drn_of ⟨[76, 81, 90, 95, 105, 110], [], []⟩ [0, 0, 3, 7, 15, 0, 0, 96, 224, 480, 0, 2047, 4095, 8191, 16383, 16383, 65535, 131071, 262143, 16383, 16383, 1589247, 3686399, 7880703, 16383, 33554431, 67108863, 134217727, 268435455, 536870911, 536870911, 2147483647, 4294967295, 8589934591, 536870911, 536870911, 52076478463, 120795955199, 258234908671, 536870911, 1099511627775, 2199023255551, 4398046511103] (by kernel_rfl) ?_
    simp only [go_sem, Nat.reduceEqDiff, Nat.reduceBEq, Int.reduceToNat, Int.reduceLT, Int.reduceLE, Int.reduceEq, Nat.reduceLeDiff, Nat.reduceLT, Nat.reduceMul, Nat.reduceAdd, String.reduceEq, i0, i1, i2, i7, hm, hlt, hat, hlt7, eq_self, decide_true, Bool.not_true]
    refine cald_eq (he _) ?_
    simp only [go_sem, Nat.reduceEqDiff, Nat.reduceBEq, Int.reduceToNat, Int.reduceLT, Int.reduceLE, Int.reduceEq, Nat.reduceLeDiff, Nat.reduceLT, Nat.reduceMul, Nat.reduceAdd, String.reduceEq, i0, i1, i2, i7, hm, hlt, hat, hlt7, eq_self, decide_true, Bool.not_true]
    refine cald_eq (hb _) ?_
    simp only [go_sem, Nat.reduceEqDiff, Nat.reduceBEq, Int.reduceToNat, Int.reduceLT, Int.reduceLE, Int.reduceEq, Nat.reduceLeDiff, Nat.reduceLT, Nat.reduceMul, Nat.reduceAdd, String.reduceEq, i0, i1, i2, i7, hm, hlt, hat, hlt7, eq_self, decide_true, Bool.not_true]
    refine cald_eq (hs _) ?_
    simp only [go_sem, Nat.reduceEqDiff, Nat.reduceBEq, Int.reduceToNat, Int.reduceLT, Int.reduceLE, Int.reduceEq, Nat.reduceLeDiff, Nat.reduceLT, Nat.reduceMul, Nat.reduceAdd, String.reduceEq, i0, i1, i2, i7, hm, hlt, hat, hlt7, eq_self, decide_true, Bool.not_true, hw]
    refine hQ .normal _ ?_; clear hQ Q
    refine ⟨_, _, k + 1, DropW.refl m, ?_, by omega, by omega⟩
    simp [upd_apply, i0, i1, i2, IV.np, SK.np, npTs]
  · refine TS.of [] fun Q hQ => ?_
    simp only [go_sem, Nat.reduceEqDiff, Nat.reduceBEq, Int.reduceToNat, Int.reduceLT, Int.reduceLE, Int.reduceEq, Nat.reduceLeDiff, Nat.reduceLT, Nat.reduceMul, Nat.reduceAdd, String.reduceEq, i0, i1, i2, i7, hm, hlt]
    refine hQ (.exit 0) _ ?_; clear hQ Q
    refine TS.of [] fun Q hQ => ?_
    simp only [go_sem, Nat.reduceEqDiff, Nat.reduceBEq, Int.reduceToNat, Int.reduceLT, Int.reduceLE, Int.reduceEq, Nat.reduceLeDiff, Nat.reduceLT, Nat.reduceMul, Nat.reduceAdd, String.reduceEq]
    refine hQ .ret _ ?_; exact post_ret _ _ _ rfl rfl (DropW.refl _) ⟨rfl, rfl⟩
theorem eqT_all : ∀ N, N < 900000 → EqT N := by
  intro N
  induction N using Nat.strongRecOn with
  | ind N ih => intro hB; exact eqT_step hB fun M hM => ih M hM (by omega)
theorem strs_at {l : List Bytes} {k : Nat} {x : Bytes} (h : l[k]? = some x) : (l.map (IV.v <| .string ·)).drop k = ss x :: (l.map (IV.v <| .string ·)).drop (k + 1) := by
  obtain ⟨hj, rfl⟩ := List.getElem?_eq_some_iff.1 h
  rw [List.drop_eq_getElem_cons (by rw [List.length_map]; exact hj), List.getElem_map]
set_option maxRecDepth 100000 in
set_option maxHeartbeats 4000000 in
theorem same_sim (m : Mem) (d : Def) (hd : DefOK d) : Sim 42 [.agg (encD d), .agg (encD d), bb true] m (fun r m' => r = bb true ∧ m' = m) := by
  have hs := hd.size
  have hn := fun m => eqE_all (szs d.needs) (by omega) d.needs m (Nat.le_refl _)
  have hg := fun m => eqE_all (szs d.give) (by omega) d.give m (Nat.le_refl _)
  have hb := fun m => eqT_all (szt d.body) (by omega) d.body m (Nat.le_refl _)
  have hl := hd.params
  refine Sim.ofS 67 [.tmp 6] Try.func42 rfl rfl rfl (by simp) fun wr => ?_
  simp only [go_sem, Nat.reduceEqDiff, Nat.reduceBEq, Int.reduceToNat, Int.reduceLT, Int.reduceLE, Int.reduceEq, Nat.reduceLeDiff, Nat.reduceLT, Nat.reduceMul, Nat.reduceAdd, String.reduceEq]
  refine TS.seq (TS.of [3, 4] fun Q hQ => ?_)
  simp only [go_sem, Nat.reduceEqDiff, Nat.reduceBEq, Int.reduceToNat, Int.reduceLT, Int.reduceLE, Int.reduceEq, Nat.reduceLeDiff, Nat.reduceLT, Nat.reduceMul, Nat.reduceAdd, String.reduceEq]
  refine hQ .normal _ ?_; clear hQ Q
  refine TS.seq (TS.of [3, 4] fun Q hQ => ?_)
  simp only [go_sem, Nat.reduceEqDiff, Nat.reduceBEq, Int.reduceToNat, Int.reduceLT, Int.reduceLE, Int.reduceEq, Nat.reduceLeDiff, Nat.reduceLT, Nat.reduceMul, Nat.reduceAdd, String.reduceEq, encD, eq_self, decide_true, Bool.not_true]
  refine cal_eq (hn _) ?_
  simp only [go_sem, Nat.reduceEqDiff, Nat.reduceBEq, Int.reduceToNat, Int.reduceLT, Int.reduceLE, Int.reduceEq, Nat.reduceLeDiff, Nat.reduceLT, Nat.reduceMul, Nat.reduceAdd, String.reduceEq]
  refine cal_eq (hb _) ?_
  simp only [go_sem, Nat.reduceEqDiff, Nat.reduceBEq, Int.reduceToNat, Int.reduceLT, Int.reduceLE, Int.reduceEq, Nat.reduceLeDiff, Nat.reduceLT, Nat.reduceMul, Nat.reduceAdd, String.reduceEq]
  refine cal_eq (hg _) ?_
  simp only [go_sem, Nat.reduceEqDiff, Nat.reduceBEq, Int.reduceToNat, Int.reduceLT, Int.reduceLE, Int.reduceEq, Nat.reduceLeDiff, Nat.reduceLT, Nat.reduceMul, Nat.reduceAdd, String.reduceEq]
  refine hQ .normal _ ?_; clear hQ Q
  refine TS.seq (TS.seq (TS.of [] fun Q hQ => ?_))
  simp only [go_sem, Nat.reduceEqDiff, Nat.reduceBEq, Int.reduceToNat, Int.reduceLT, Int.reduceLE, Int.reduceEq, Nat.reduceLeDiff, Nat.reduceLT, Nat.reduceMul, Nat.reduceAdd, String.reduceEq]
  refine hQ .normal _ ?_; clear hQ Q
  refine TS.block (TS.loop (α := Nat) (fun k => [(3, .ref (encD d)), (4, .ref (encD d)), (7, ii k)]) (fun _ => m) (fun k => k ≤ d.params.length) (fun k => d.params.length - k) 0 (by simp) ⟨by simp [Has, upd_apply, encD], rfl, Nat.zero_le _⟩ ?_)
  rintro k st hH hm hk
  simp only [Has, List.mem_cons, List.not_mem_nil, or_false, forall_eq_or_imp, forall_eq] at hH; obtain ⟨i3, i4, i7⟩ := hH
  by_cases hlt : k < d.params.length
  · obtain ⟨x, hx⟩ : ∃ x, d.params[k]? = some x := ⟨_, List.getElem?_eq_getElem hlt⟩
    have hat := strs_at hx
    have hw := wrap_succ hlt (by omega)
    refine TS.of [] fun Q hQ => ?_
    simp only [go_sem, Nat.reduceEqDiff, Nat.reduceBEq, Int.reduceToNat, Int.reduceLT, Int.reduceLE, Int.reduceEq, Nat.reduceLeDiff, Nat.reduceLT, Nat.reduceMul, Nat.reduceAdd, String.reduceEq, i3, i4, i7, hm, hlt, hat, List.length_map, eq_self, decide_true, Bool.not_true]
    refine drn_of ⟨[57, 60, 62, 65], [], []⟩ [0, 1, 0, 7, 15, 0, 32, 0, 224, 480, 1023] (by kernel_rfl) ?_
    simp only [go_sem, Nat.reduceEqDiff, Nat.reduceBEq, Int.reduceToNat, Int.reduceLT, Int.reduceLE, Int.reduceEq, Nat.reduceLeDiff, Nat.reduceLT, Nat.reduceMul, Nat.reduceAdd, String.reduceEq, i3, i4, i7, hm, hlt, hat, List.length_map, eq_self, decide_true, Bool.not_true, hw]
    refine hQ .normal _ ?_; clear hQ Q
    refine ⟨_, _, k + 1, DropW.refl m, ?_, by omega, by omega⟩
    simp [upd_apply, i3, i4, IV.np, npL, SK.np, npS, npEs, npTs]
  · refine TS.of [] fun Q hQ => ?_
    simp only [go_sem, Nat.reduceEqDiff, Nat.reduceBEq, Int.reduceToNat, Int.reduceLT, Int.reduceLE, Int.reduceEq, Nat.reduceLeDiff, Nat.reduceLT, Nat.reduceMul, Nat.reduceAdd, String.reduceEq, i3, i4, i7, hm, hlt]
    refine hQ (.exit 0) _ ?_; clear hQ Q
    refine TS.of [] fun Q hQ => ?_
    simp only [go_sem, Nat.reduceEqDiff, Nat.reduceBEq, Int.reduceToNat, Int.reduceLT, Int.reduceLE, Int.reduceEq, Nat.reduceLeDiff, Nat.reduceLT, Nat.reduceMul, Nat.reduceAdd, String.reduceEq]
    refine hQ .ret _ ?_; exact post_ret _ _ _ rfl rfl (DropW.refl _) ⟨rfl, rfl⟩
end Go.Proofs.Ytphjldhdnmoolaa.A
/- The walks of some functions over the abstract machine. -/
namespace Go.Proofs.Ytphjldhdnmoolaa.A
open Go
/-! law10.InvertOwns -/
theorem same_own {B X : List IObj} {c c5 : IObj} {rows rows' : List Nat} : Same (fun q => (B ++ [c]).length ≤ q) (fun q => B.length + 1 ≤ q ∧ q < B.length + (X.length + 1)) ⟨(B ++ [c]) ++ X, rows⟩ ⟨B ++ c :: (X ++ [c5]), rows'⟩ := by
  intro q L hq hL
  dsimp only at hq hL ⊢
  have hlt := (List.getElem?_eq_some_iff.1 hL).1
  simp at hq hlt
  refine ⟨⟨hq, by omega⟩, ?_⟩
  rw [show B ++ c :: (X ++ [c5]) = ((B ++ [c]) ++ X) ++ [c5] by simp, List.getElem?_append_left (by first | (simp; done) | (simp; omega))]
  exact hL
theorem own_shape {m M : Mem} {c : IObj} (hr : M.rows = m.rows) (hlow : ∀ o, o < m.objs.length + 1 → M.objs[o]? = (m.objs ++ [c])[o]?) (hl : m.objs.length + 1 ≤ M.objs.length) : ∃ Y, M = ⟨m.objs ++ c :: Y, m.rows⟩ := by
  refine ⟨M.objs.drop (m.objs.length + 1), ?_⟩
  obtain ⟨O, R⟩ := M
  dsimp only at hr hlow hl ⊢
  subst hr
  congr 1
  have h1 : O.take (m.objs.length + 1) = m.objs ++ [c] := by
    refine List.ext_getElem? fun i => ?_
    rw [List.getElem?_take]
    split
    · exact hlow i ‹_›
    · rw [List.getElem?_eq_none (by first | (simp; done) | (simp; omega))]
  have h2 := List.take_append_drop (m.objs.length + 1) O
  rw [h1] at h2
  rw [← h2]; simp
set_option maxRecDepth 100000 in
set_option maxHeartbeats 4000000 in
theorem iowns_law (m : Mem) (s : Bytes) : Sim 13 [ss s] m (fun r m' => r = bb true ∧ m' = m) := by
  have hp := fun m => parsed_sim m s
  refine Sim.ofS 48 [.tmp 2] Try.func13 rfl rfl rfl (by simp) fun wr => ?_
  simp only [go_sem, Nat.reduceEqDiff, Nat.reduceBEq, Int.reduceToNat, Int.reduceLT, Int.reduceLE, Int.reduceEq, Nat.reduceLeDiff, Nat.reduceLT, Nat.reduceMul, Nat.reduceAdd, String.reduceEq]
  refine TS.seq (TS.of [] fun Q hQ => ?_)
  simp only [go_sem, Nat.reduceEqDiff, Nat.reduceBEq, Int.reduceToNat, Int.reduceLT, Int.reduceLE, Int.reduceEq, Nat.reduceLeDiff, Nat.reduceLT, Nat.reduceMul, Nat.reduceAdd, String.reduceEq]
  refine hQ .normal _ ?_; clear hQ Q
  refine TS.seq (TS.of [] fun Q hQ => ?_)
  simp only [go_sem, Nat.reduceEqDiff, Nat.reduceBEq, Int.reduceToNat, Int.reduceLT, Int.reduceLE, Int.reduceEq, Nat.reduceLeDiff, Nat.reduceLT, Nat.reduceMul, Nat.reduceAdd, String.reduceEq]
  refine cal_eq (alive10_sim _) ?_
  simp only [go_sem, Nat.reduceEqDiff, Nat.reduceBEq, Int.reduceToNat, Int.reduceLT, Int.reduceLE, Int.reduceEq, Nat.reduceLeDiff, Nat.reduceLT, Nat.reduceMul, Nat.reduceAdd, String.reduceEq]
  refine hQ .normal _ ?_; clear hQ Q
  refine TS.seq (TS.of [] fun Q hQ => ?_)
  simp only [go_sem, Nat.reduceEqDiff, Nat.reduceBEq, Int.reduceToNat, Int.reduceLT, Int.reduceLE, Int.reduceEq, Nat.reduceLeDiff, Nat.reduceLT, Nat.reduceMul, Nat.reduceAdd, String.reduceEq]
  refine cal_eq (hp _) ?_
  simp only [go_sem, Nat.reduceEqDiff, Nat.reduceBEq, Int.reduceToNat, Int.reduceLT, Int.reduceLE, Int.reduceEq, Nat.reduceLeDiff, Nat.reduceLT, Nat.reduceMul, Nat.reduceAdd, String.reduceEq, encD]
  refine hQ .normal _ ?_; clear hQ Q
  by_cases b1 : (parse s).2.1 = 0
  rotate_left
  · refine TS.of [] fun Q hQ => ?_
    simp only [go_sem, Nat.reduceEqDiff, Nat.reduceBEq, Int.reduceToNat, Int.reduceLT, Int.reduceLE, Int.reduceEq, Nat.reduceLeDiff, Nat.reduceLT, Nat.reduceMul, Nat.reduceAdd, String.reduceEq, eq_false b1]
    refine hQ .ret _ ?_; clear hQ Q; refine post_ret _ _ (bb true) ?_ ?_ (DropW.tail0 _ rfl) ⟨rfl, rfl⟩
    · simp only [go_sem, Nat.reduceEqDiff, Nat.reduceBEq, Int.reduceToNat, Int.reduceLT, Int.reduceLE, Int.reduceEq, Nat.reduceLeDiff, Nat.reduceLT, Nat.reduceMul, Nat.reduceAdd, String.reduceEq]
    · rfl
  have hf := parse_fit b1
  have ho := parse_ok b1
  have ht := fun m => vturn_sim m (parse s).1 ho hf.body
  have hs1 := fun m => same_sim m (parse s).1 ho
  generalize parse s = P0 at *
  obtain ⟨d, c0, p0⟩ := P0
  dsimp only at b1 hf ho ht hs1 hp
  subst b1
  refine TS.seq (TS.of [] fun Q hQ => ?_)
  simp only [go_sem, Nat.reduceEqDiff, Nat.reduceBEq, Int.reduceToNat, Int.reduceLT, Int.reduceLE, Int.reduceEq, Nat.reduceLeDiff, Nat.reduceLT, Nat.reduceMul, Nat.reduceAdd, String.reduceEq, eq_self, decide_true]
  refine hQ .normal _ ?_; clear hQ Q
  refine TS.seq ((TS.rgN [] [] 1 fun Q hQ => ?_))
  simp only [List.take_succ_cons, List.take_zero, List.drop_succ_cons, List.drop_zero]
  simp only [go_sem, Nat.reduceEqDiff, Nat.reduceBEq, Int.reduceToNat, Int.reduceLT, Int.reduceLE, Int.reduceEq, Nat.reduceLeDiff, Nat.reduceLT, Nat.reduceMul, Nat.reduceAdd, String.reduceEq, encD]
  refine ⟨rfl, by simp only [go_sem, Nat.reduceEqDiff, Nat.reduceBEq, Int.reduceToNat, Int.reduceLT, Int.reduceLE, Int.reduceEq, Nat.reduceLeDiff, Nat.reduceLT, Nat.reduceMul, Nat.reduceAdd, String.reduceEq], _, fun wr => nd_call rfl rfl rfl (by simp only [go_sem, Nat.reduceEqDiff, Nat.reduceBEq, Int.reduceToNat, Int.reduceLT, Int.reduceLE, Int.reduceEq, Nat.reduceLeDiff, Nat.reduceLT, Nat.reduceMul, Nat.reduceAdd, String.reduceEq]; exact ht _), fun z m2 hz => ?_⟩
  obtain ⟨⟨X, rfl⟩, hz⟩ := hz
  by_cases hc : (check d).2 = none ∧ (check d).1.turns = true
  rotate_left
  · rw [if_neg hc] at hz
    subst hz
    simp only [go_sem, Nat.reduceEqDiff, Nat.reduceBEq, Int.reduceToNat, Int.reduceLT, Int.reduceLE, Int.reduceEq, Nat.reduceLeDiff, Nat.reduceLT, Nat.reduceMul, Nat.reduceAdd, String.reduceEq, encD]
    refine hQ .normal _ ?_; clear hQ Q
    refine TS.of [] fun Q hQ => ?_
    simp only [go_sem, Nat.reduceEqDiff, Nat.reduceBEq, Int.reduceToNat, Int.reduceLT, Int.reduceLE, Int.reduceEq, Nat.reduceLeDiff, Nat.reduceLT, Nat.reduceMul, Nat.reduceAdd, String.reduceEq]
    refine hQ .ret _ ?_; clear hQ Q; refine post_ret _ _ (bb true) ?_ ?_ (DropW.tail0 _ rfl) ⟨rfl, rfl⟩
    · simp only [go_sem, Nat.reduceEqDiff, Nat.reduceBEq, Int.reduceToNat, Int.reduceLT, Int.reduceLE, Int.reduceEq, Nat.reduceLeDiff, Nat.reduceLT, Nat.reduceMul, Nat.reduceAdd, String.reduceEq]
    · rfl
  rw [if_pos hc] at hz
  obtain ⟨pv, bv, rfl, hP, hB, ob, nb, cb, rfl⟩ := hz
  have hB2 := hB
  rcases hP with ⟨kp, rfl⟩ | ⟨op_, np_, cp_, LP, rfl, hp1, hp2, hp3, hp4, hp5⟩
  · simp only [go_sem, Nat.reduceEqDiff, Nat.reduceBEq, Int.reduceToNat, Int.reduceLT, Int.reduceLE, Int.reduceEq, Nat.reduceLeDiff, Nat.reduceLT, Nat.reduceMul, Nat.reduceAdd, String.reduceEq, encD]
    refine hQ .normal _ ?_; clear hQ Q
    refine TS.seq (TS.of [] fun Q hQ => ?_)
    simp only [go_sem, Nat.reduceEqDiff, Nat.reduceBEq, Int.reduceToNat, Int.reduceLT, Int.reduceLE, Int.reduceEq, Nat.reduceLeDiff, Nat.reduceLT, Nat.reduceMul, Nat.reduceAdd, String.reduceEq]
    refine hQ .normal _ ?_; clear hQ Q
    obtain ⟨p5, hp5⟩ : ∃ p, p = m.objs.length + (X.length + 1) := ⟨_, rfl⟩
    obtain ⟨M3, hM3⟩ : ∃ z, z = (⟨m.objs ++ IObj.cells [ss d.name, slS d.params, slE d.needs, slT d.body, slE d.give] :: (X ++ [IObj.cells [ss d.name, .sl kp 0 [], .sl .sh 0 [], .vec ob nb cb, .sl .sh 0 []]]), m.rows⟩ : Mem) := ⟨_, rfl⟩
    rw [← hp5, ← hM3]
    have k5 : M3.objs[p5]? = some (.cells [ss d.name, .sl kp 0 [], .sl .sh 0 [], .vec ob nb cb, .sl .sh 0 []]) := by rw [hM3, hp5]; simp
    have kX : Same (fun q => (m.objs ++ [IObj.cells [ss d.name, slS d.params, slE d.needs, slT d.body, slE d.give]]).length ≤ q) (fun q => m.objs.length + 1 ≤ q ∧ q < p5) ⟨(m.objs ++ [IObj.cells [ss d.name, slS d.params, slE d.needs, slT d.body, slE d.give]]) ++ X, m.rows⟩ M3 := by
      rw [hM3, hp5]; exact same_own
    have kB : okT' (fun q => m.objs.length + 1 ≤ q ∧ q < p5) M3 (.vec ob nb cb) := hB2.move kX
    refine TS.seq ((TS.rgN [] [] 2 fun Q hQ => ?_))
    simp only [List.take_succ_cons, List.take_zero, List.drop_succ_cons, List.drop_zero]
    simp only [go_sem, Nat.reduceEqDiff, Nat.reduceBEq, Int.reduceToNat, Int.reduceLT, Int.reduceLE, Int.reduceEq, Nat.reduceLeDiff, Nat.reduceLT, Nat.reduceMul, Nat.reduceAdd, String.reduceEq, k5]
    refine ⟨rfl, by simp only [go_sem, Nat.reduceEqDiff, Nat.reduceBEq, Int.reduceToNat, Int.reduceLT, Int.reduceLE, Int.reduceEq, Nat.reduceLeDiff, Nat.reduceLT, Nat.reduceMul, Nat.reduceAdd, String.reduceEq], _, fun wr => nd_call rfl rfl rfl (by simp only [go_sem, Nat.reduceEqDiff, Nat.reduceBEq, Int.reduceToNat, Int.reduceLT, Int.reduceLE, Int.reduceEq, Nat.reduceLeDiff, Nat.reduceLT, Nat.reduceMul, Nat.reduceAdd, String.reduceEq]; exact spoil_all kB M3 (Zr.refl _ _)), fun z M4 hz => ?_⟩
    obtain ⟨rfl, hz4⟩ := hz
    have k5' : M4.objs[p5]? = some (.cells [ss d.name, .sl kp 0 [], .sl .sh 0 [], .vec ob nb cb, .sl .sh 0 []]) := by rw [hz4.low p5 (by omega)]; exact k5
    have hlow : ∀ o, o < m.objs.length + 1 → M4.objs[o]? = (m.objs ++ [IObj.cells [ss d.name, slS d.params, slE d.needs, slT d.body, slE d.give]])[o]? := fun o ho => by
      rw [hz4.low o (by omega), hM3]
      dsimp only
      rw [show m.objs ++ IObj.cells [ss d.name, slS d.params, slE d.needs, slT d.body, slE d.give] :: (X ++ [IObj.cells [ss d.name, .sl kp 0 [], .sl .sh 0 [], .vec ob nb cb, .sl .sh 0 []]]) = (m.objs ++ [IObj.cells [ss d.name, slS d.params, slE d.needs, slT d.body, slE d.give]]) ++ (X ++ [IObj.cells [ss d.name, .sl kp 0 [], .sl .sh 0 [], .vec ob nb cb, .sl .sh 0 []]]) by simp, List.getElem?_append_left (by first | (simp; done) | (simp; omega))]
    have hrow : M4.rows = m.rows := by rw [hz4.rows, hM3]
    have hlen4 : m.objs.length + 1 ≤ M4.objs.length := by rw [hz4.len, hM3]; simp
    simp only [go_sem, Nat.reduceEqDiff, Nat.reduceBEq, Int.reduceToNat, Int.reduceLT, Int.reduceLE, Int.reduceEq, Nat.reduceLeDiff, Nat.reduceLT, Nat.reduceMul, Nat.reduceAdd, String.reduceEq]
    refine hQ .normal _ ?_; clear hQ Q
    refine TS.seq (TS.seq (TS.of [] fun Q hQ => ?_))
    simp only [go_sem, Nat.reduceEqDiff, Nat.reduceBEq, Int.reduceToNat, Int.reduceLT, Int.reduceLE, Int.reduceEq, Nat.reduceLeDiff, Nat.reduceLT, Nat.reduceMul, Nat.reduceAdd, String.reduceEq, k5']
    refine hQ .normal _ ?_; clear hQ Q
    refine TS.block (TS.loop0 (α := Unit) (fun _ => [(0, ss s), (3, .ptr m.objs.length 0), (31, ii 0), (32, ii 0)]) (fun _ => M4) (fun _ => True) (fun _ => 0) () ⟨by simp [Has, upd_apply, argsT], rfl, trivial⟩ ?_)
    rintro _ st hH hm _
    simp only [Has, List.mem_cons, List.not_mem_nil, or_false, forall_eq_or_imp, forall_eq] at hH; obtain ⟨i0, i3, i31, i32⟩ := hH
    refine TS.of [] fun Q hQ => ?_
    simp only [go_sem, Nat.reduceEqDiff, Nat.reduceBEq, Int.reduceToNat, Int.reduceLT, Int.reduceLE, Int.reduceEq, Nat.reduceLeDiff, Nat.reduceLT, Nat.reduceMul, Nat.reduceAdd, String.reduceEq, i31, i32, hm]
    refine hQ (.exit 0) _ ?_; clear hQ Q
    refine out_end ?_
    obtain ⟨Y, rfl⟩ := own_shape hrow hlow hlen4
    have hY := hm
    refine TS.seq (TS.of [] fun Q hQ => ?_)
    simp only [go_sem, Nat.reduceEqDiff, Nat.reduceBEq, Int.reduceToNat, Int.reduceLT, Int.reduceLE, Int.reduceEq, Nat.reduceLeDiff, Nat.reduceLT, Nat.reduceMul, Nat.reduceAdd, String.reduceEq, i0, hY]
    refine cal_eq (hp _) ?_
    simp only [go_sem, Nat.reduceEqDiff, Nat.reduceBEq, Int.reduceToNat, Int.reduceLT, Int.reduceLE, Int.reduceEq, Nat.reduceLeDiff, Nat.reduceLT, Nat.reduceMul, Nat.reduceAdd, String.reduceEq, encD]
    refine hQ .normal _ ?_; clear hQ Q
    refine TS.seq (TS.of [] fun Q hQ => ?_)
    simp only [go_sem, Nat.reduceEqDiff, Nat.reduceBEq, Int.reduceToNat, Int.reduceLT, Int.reduceLE, Int.reduceEq, Nat.reduceLeDiff, Nat.reduceLT, Nat.reduceMul, Nat.reduceAdd, String.reduceEq, i3, hY]
    refine cal_eq (hs1 _) ?_
    simp only [go_sem, Nat.reduceEqDiff, Nat.reduceBEq, Int.reduceToNat, Int.reduceLT, Int.reduceLE, Int.reduceEq, Nat.reduceLeDiff, Nat.reduceLT, Nat.reduceMul, Nat.reduceAdd, String.reduceEq]
    refine hQ .normal _ ?_; clear hQ Q
    refine TS.of [] fun Q hQ => ?_
    simp only [go_sem, Nat.reduceEqDiff, Nat.reduceBEq, Int.reduceToNat, Int.reduceLT, Int.reduceLE, Int.reduceEq, Nat.reduceLeDiff, Nat.reduceLT, Nat.reduceMul, Nat.reduceAdd, String.reduceEq]
    refine hQ .ret _ ?_; clear hQ Q; refine post_ret _ _ (bb true) ?_ ?_ (DropW.tail0 _ rfl) ⟨rfl, rfl⟩
    · simp only [go_sem, Nat.reduceEqDiff, Nat.reduceBEq, Int.reduceToNat, Int.reduceLT, Int.reduceLE, Int.reduceEq, Nat.reduceLeDiff, Nat.reduceLT, Nat.reduceMul, Nat.reduceAdd, String.reduceEq]
    · rfl
  · simp only [go_sem, Nat.reduceEqDiff, Nat.reduceBEq, Int.reduceToNat, Int.reduceLT, Int.reduceLE, Int.reduceEq, Nat.reduceLeDiff, Nat.reduceLT, Nat.reduceMul, Nat.reduceAdd, String.reduceEq, encD]
    refine hQ .normal _ ?_; clear hQ Q
    refine TS.seq (TS.of [] fun Q hQ => ?_)
    simp only [go_sem, Nat.reduceEqDiff, Nat.reduceBEq, Int.reduceToNat, Int.reduceLT, Int.reduceLE, Int.reduceEq, Nat.reduceLeDiff, Nat.reduceLT, Nat.reduceMul, Nat.reduceAdd, String.reduceEq]
    refine hQ .normal _ ?_; clear hQ Q
    obtain ⟨p5, hp5⟩ : ∃ p, p = m.objs.length + (X.length + 1) := ⟨_, rfl⟩
    obtain ⟨M3, hM3⟩ : ∃ z, z = (⟨m.objs ++ IObj.cells [ss d.name, slS d.params, slE d.needs, slT d.body, slE d.give] :: (X ++ [IObj.cells [ss d.name, .vec op_ np_ cp_, .sl .sh 0 [], .vec ob nb cb, .sl .sh 0 []]]), m.rows⟩ : Mem) := ⟨_, rfl⟩
    rw [← hp5, ← hM3]
    have k5 : M3.objs[p5]? = some (.cells [ss d.name, .vec op_ np_ cp_, .sl .sh 0 [], .vec ob nb cb, .sl .sh 0 []]) := by rw [hM3, hp5]; simp
    have kX : Same (fun q => (m.objs ++ [IObj.cells [ss d.name, slS d.params, slE d.needs, slT d.body, slE d.give]]).length ≤ q) (fun q => m.objs.length + 1 ≤ q ∧ q < p5) ⟨(m.objs ++ [IObj.cells [ss d.name, slS d.params, slE d.needs, slT d.body, slE d.give]]) ++ X, m.rows⟩ M3 := by
      rw [hM3, hp5]; exact same_own
    have kB : okT' (fun q => m.objs.length + 1 ≤ q ∧ q < p5) M3 (.vec ob nb cb) := hB2.move kX
    refine TS.seq ((TS.rgN [] [] 2 fun Q hQ => ?_))
    simp only [List.take_succ_cons, List.take_zero, List.drop_succ_cons, List.drop_zero]
    simp only [go_sem, Nat.reduceEqDiff, Nat.reduceBEq, Int.reduceToNat, Int.reduceLT, Int.reduceLE, Int.reduceEq, Nat.reduceLeDiff, Nat.reduceLT, Nat.reduceMul, Nat.reduceAdd, String.reduceEq, k5]
    refine ⟨rfl, by simp only [go_sem, Nat.reduceEqDiff, Nat.reduceBEq, Int.reduceToNat, Int.reduceLT, Int.reduceLE, Int.reduceEq, Nat.reduceLeDiff, Nat.reduceLT, Nat.reduceMul, Nat.reduceAdd, String.reduceEq], _, fun wr => nd_call rfl rfl rfl (by simp only [go_sem, Nat.reduceEqDiff, Nat.reduceBEq, Int.reduceToNat, Int.reduceLT, Int.reduceLE, Int.reduceEq, Nat.reduceLeDiff, Nat.reduceLT, Nat.reduceMul, Nat.reduceAdd, String.reduceEq]; exact spoil_all kB M3 (Zr.refl _ _)), fun z M4 hz => ?_⟩
    obtain ⟨rfl, hz4⟩ := hz
    have k5' : M4.objs[p5]? = some (.cells [ss d.name, .vec op_ np_ cp_, .sl .sh 0 [], .vec ob nb cb, .sl .sh 0 []]) := by rw [hz4.low p5 (by omega)]; exact k5
    have hlow : ∀ o, o < m.objs.length + 1 → M4.objs[o]? = (m.objs ++ [IObj.cells [ss d.name, slS d.params, slE d.needs, slT d.body, slE d.give]])[o]? := fun o ho => by
      rw [hz4.low o (by omega), hM3]
      dsimp only
      rw [show m.objs ++ IObj.cells [ss d.name, slS d.params, slE d.needs, slT d.body, slE d.give] :: (X ++ [IObj.cells [ss d.name, .vec op_ np_ cp_, .sl .sh 0 [], .vec ob nb cb, .sl .sh 0 []]]) = (m.objs ++ [IObj.cells [ss d.name, slS d.params, slE d.needs, slT d.body, slE d.give]]) ++ (X ++ [IObj.cells [ss d.name, .vec op_ np_ cp_, .sl .sh 0 [], .vec ob nb cb, .sl .sh 0 []]]) by simp, List.getElem?_append_left (by first | (simp; done) | (simp; omega))]
    have hrow : M4.rows = m.rows := by rw [hz4.rows, hM3]
    have hlen4 : m.objs.length + 1 ≤ M4.objs.length := by rw [hz4.len, hM3]; simp
    simp only [go_sem, Nat.reduceEqDiff, Nat.reduceBEq, Int.reduceToNat, Int.reduceLT, Int.reduceLE, Int.reduceEq, Nat.reduceLeDiff, Nat.reduceLT, Nat.reduceMul, Nat.reduceAdd, String.reduceEq]
    refine hQ .normal _ ?_; clear hQ Q
    refine TS.seq (TS.seq (TS.of [] fun Q hQ => ?_))
    simp only [go_sem, Nat.reduceEqDiff, Nat.reduceBEq, Int.reduceToNat, Int.reduceLT, Int.reduceLE, Int.reduceEq, Nat.reduceLeDiff, Nat.reduceLT, Nat.reduceMul, Nat.reduceAdd, String.reduceEq, k5']
    refine hQ .normal _ ?_; clear hQ Q
    have hpo : m.objs.length + 1 ≤ op_ ∧ op_ < p5 := by
      have h2 := (List.getElem?_eq_some_iff.1 hp2).1
      simp at h2 hp1
      omega
    obtain ⟨L4, ho4, hl4, _⟩ := hz4.cell op_ LP hpo (kX op_ LP hp1 hp2).2
    have hset5 : ∀ Z, (M4.objs.set op_ Z)[p5]? = some (.cells [ss d.name, .vec op_ np_ cp_, .sl .sh 0 [], .vec ob nb cb, .sl .sh 0 []]) := fun Z => by rw [List.getElem?_set, if_neg (by omega)]; exact k5'
    have hsetP : ∀ Z, (M4.objs.set op_ Z)[op_]? = some Z := fun Z => by rw [List.getElem?_set, if_pos rfl, if_pos (List.getElem?_eq_some_iff.1 ho4).1]
    have hset2 : ∀ Y Z : IObj, (M4.objs.set op_ Y).set op_ Z = M4.objs.set op_ Z := fun Y Z => by rw [List.set_set]
    refine TS.block (TS.loop0 (α := List IV × Nat) (fun x => [(0, ss s), (3, .ptr m.objs.length 0), (5, .ptr p5 0), (31, ii np_), (32, ii x.2)]) (fun x => ⟨M4.objs.set op_ (.cells x.1), M4.rows⟩) (fun x => x.1.length = cp_ ∧ x.2 ≤ np_) (fun x => np_ - x.2) (L4, 0) ⟨by simp [Has, upd_apply, argsT], by dsimp only; rw [set_same ho4], by dsimp only; omega, Nat.zero_le _⟩ ?_)
    rintro ⟨L', i⟩ st hH hm ⟨hl, hi⟩
    dsimp only at hH hm hl hi
    simp only [Has, List.mem_cons, List.not_mem_nil, or_false, forall_eq_or_imp, forall_eq] at hH; obtain ⟨i0, i3, i5, i31, i32⟩ := hH
    by_cases hlt : i < np_
    · have hw := wrap_succ hlt (by omega)
      have hfit : i + 1 ≤ L'.length := by omega
      refine TS.of [] fun Q hQ => ?_
      simp only [go_sem, Nat.reduceEqDiff, Nat.reduceBEq, Int.reduceToNat, Int.reduceLT, Int.reduceLE, Int.reduceEq, Nat.reduceLeDiff, Nat.reduceLT, Nat.reduceMul, Nat.reduceAdd, String.reduceEq, i0, i3, i5, i31, i32, hm, hlt, hset5, hsetP, hset2, hfit, hw]
      refine hQ .normal _ ?_; clear hQ Q
      refine ⟨(_, i + 1), rfl, by simp [Has, upd_apply, i0, i3, i5, i31], ⟨?_, hlt⟩, by dsimp only; omega⟩
      simp; omega
    · refine TS.of [] fun Q hQ => ?_
      simp only [go_sem, Nat.reduceEqDiff, Nat.reduceBEq, Int.reduceToNat, Int.reduceLT, Int.reduceLE, Int.reduceEq, Nat.reduceLeDiff, Nat.reduceLT, Nat.reduceMul, Nat.reduceAdd, String.reduceEq, i31, i32, hm, hlt]
      refine hQ (.exit 0) _ ?_; clear hQ Q
      refine out_end ?_
      obtain ⟨Y, hYY⟩ := own_shape (M := ⟨M4.objs.set op_ (.cells L'), M4.rows⟩) hrow (fun o ho => by dsimp only; rw [List.getElem?_set, if_neg (by omega)]; exact hlow o ho) (by first | (simp; done) | (simp; omega))
      have hY := hm.trans hYY
      rw [hYY]
      refine TS.seq (TS.of [] fun Q hQ => ?_)
      simp only [go_sem, Nat.reduceEqDiff, Nat.reduceBEq, Int.reduceToNat, Int.reduceLT, Int.reduceLE, Int.reduceEq, Nat.reduceLeDiff, Nat.reduceLT, Nat.reduceMul, Nat.reduceAdd, String.reduceEq, i0, hY]
      refine cal_eq (hp _) ?_
      simp only [go_sem, Nat.reduceEqDiff, Nat.reduceBEq, Int.reduceToNat, Int.reduceLT, Int.reduceLE, Int.reduceEq, Nat.reduceLeDiff, Nat.reduceLT, Nat.reduceMul, Nat.reduceAdd, String.reduceEq, encD]
      refine hQ .normal _ ?_; clear hQ Q
      refine TS.seq (TS.of [] fun Q hQ => ?_)
      simp only [go_sem, Nat.reduceEqDiff, Nat.reduceBEq, Int.reduceToNat, Int.reduceLT, Int.reduceLE, Int.reduceEq, Nat.reduceLeDiff, Nat.reduceLT, Nat.reduceMul, Nat.reduceAdd, String.reduceEq, i3, hY]
      refine cal_eq (hs1 _) ?_
      simp only [go_sem, Nat.reduceEqDiff, Nat.reduceBEq, Int.reduceToNat, Int.reduceLT, Int.reduceLE, Int.reduceEq, Nat.reduceLeDiff, Nat.reduceLT, Nat.reduceMul, Nat.reduceAdd, String.reduceEq]
      refine hQ .normal _ ?_; clear hQ Q
      refine TS.of [] fun Q hQ => ?_
      simp only [go_sem, Nat.reduceEqDiff, Nat.reduceBEq, Int.reduceToNat, Int.reduceLT, Int.reduceLE, Int.reduceEq, Nat.reduceLeDiff, Nat.reduceLT, Nat.reduceMul, Nat.reduceAdd, String.reduceEq]
      refine hQ .ret _ ?_; clear hQ Q; refine post_ret _ _ (bb true) ?_ ?_ (DropW.tail0 _ rfl) ⟨rfl, rfl⟩
      · simp only [go_sem, Nat.reduceEqDiff, Nat.reduceBEq, Int.reduceToNat, Int.reduceLT, Int.reduceLE, Int.reduceEq, Nat.reduceLeDiff, Nat.reduceLT, Nat.reduceMul, Nat.reduceAdd, String.reduceEq]
      · rfl
end Go.Proofs.Ytphjldhdnmoolaa.A
/- Words for the rows: what came in, seen by the abstract machine. -/
namespace Go.Proofs.Ytphjldhdnmoolaa.A
open Go Go.ChangeShapes Go.WideShapes Go.ChangeAt Go.RowKit Go.Joins
theorem own : ownKnob Try.prog.godebug = none := by kernel_rfl
theorem laidOut : laidOutB Try.prog = true := by kernel_rfl
def K0 (w : World) : K := ⟨[], [], fun b j => ∃ v, w.cell? ⟨b, j, none⟩ = some v⟩
def M0 : Mem := ⟨[], []⟩
theorem inv0 (w : World) : Inv (wr0 (K0 w) w) (K0 w) w M0 :=
  ⟨rfl, fun i j b h => by simp [K0] at h, fun o b x h => by simp [K0] at h, rfl, fun k r h => by simp [K0] at h, fun i j r r' h => by simp [K0] at h,
    fun b j h => ⟨by simp [K0], h⟩, fun b h => by simp [K0] at h, fun k r h => by simp [K0] at h, fun b h => .inr (.inr h)⟩
theorem calls_of_sim {f : FuncId} {args : List IV} {w : World} {vs : Array Value} (h : Sim f args M0 (fun r m' => r = .v (.bool true) ∧ m' = M0)) (hl : RelL (K0 w) w args vs.toList) :
    Calls Try.prog f vs w fun e w' => e = .returned (.bool true) ∧ Below w.heap.size w w' := by
  refine (h (K0 w) w vs (inv0 w) hl).mono ?_
  rintro e w' ⟨κ', v, r, m', rfl, hev, hi, hr, rfl, rfl⟩
  refine ⟨?_, hev.os, hev.tape, hev.output, hev.size, fun k hk => (hev.keep k hk ?_).1⟩
  · simp only [Rel] at hr; rw [hr]
  · rintro (h | ⟨k, r, h, _⟩ | h)
    · simp [K0] at h
    · simp [K0] at h
    · omega
theorem places_lt {H : Type} {enc : TypeId × Value → H} {P : Program} {W : World} {base : Nat} {spare : Nat → Bool} {held : Bool} {t : TypeId} {v : Value} {d : DataW H} {p : List MemPlace} (h : DataW.Trod enc P W base spare held t v d p) : ∀ x ∈ p, x.block < W.heap.size := by
  obtain ⟨m, hm⟩ := h
  exact DataW.trod_lt m _ _ _ hm
theorem relC_cells {w : World} {b : Nat} : ∀ {l : List Value} {off : Nat}, (∀ i, i < l.length → w.cell? ⟨b, off + i, none⟩ = l[i]?) → RelC (K0 w) w b off (l.map .v)
  | [], _, _ => by simp [RelC]
  | x :: l, off, h => by
    have h0 := h 0 (by simp)
    simp only [List.map_cons, RelC]
    refine ⟨⟨x, by simpa using h0⟩, ⟨x, by simpa using h0, rfl⟩, relC_cells fun i hi => ?_⟩
    have h1 := h (i + 1) (by simpa using hi)
    simpa [Nat.add_assoc, Nat.add_comm 1 i] using h1
/-- A text that came in. -/
theorem open_string {H : Type} {enc : TypeId × Value → H} {P : Program} {w : World} {base : Nat} {spare : Nat → Bool} {held : Bool} {r : Reach} {b0 : Nat} {t : TypeId} {v : Value} {d : DataW H} {ps : List MemPlace} (ht : P.underlying t = some .string) (hval : Value.okWide P w r b0 t v) (hd : DataW.Trod enc P w base spare held t v d ps) :
    ∃ s : ByteArray, v = .string s ∧ d = .lit (.string s.data.toList) ∧ ps = [] ∧ s.size ≤ maxLen := by
  obtain ⟨n, rfl⟩ := okWide_string ht hval
  obtain ⟨fuel, hf⟩ := hd
  obtain ⟨n', h, hx, hw⟩ := DataW.trod_string ht hf
  simp [Value.cells] at h
  subst h
  simp only [Prod.mk.injEq] at hx
  exact ⟨n, rfl, hx.1, hx.2, hw⟩
/-- A slice of whole numbers that came in. -/
theorem rel_ints {H : Type} {enc : TypeId × Value → H} {P : Program} {W : World} {t e : TypeId} {k : IntKind} {fuel : Nat} {cs : List Value} {x : DataW H × List MemPlace} {ts : List TypeId} {ds : List (DataW H)} {j : Nat} (hu : P.underlying t = some (.slice e)) (he : P.underlying e = some (.int k)) (hc : P.cellsOf e = 1)
    (h : DataW.trod enc P W 0 (fun _ => true) true fuel t cs = some x) (hsz : (DataW.weightsEach P ts ds).all (· ≤ reachBytes) = true) (ht : ts[j]? = some t) (hd : ds[j]? = some x.1) {B : Nat} (hB : P.bytesOf e = B) :
    ∃ (A : Option Addr) (l : List Int) (c : Nat), cs = [.slice A l.length c] ∧ l.length ≤ c ∧ Rel (K0 W) W (.sl .sh l.length (l.map (IV.v <| .int k ·))) (.slice A l.length c) ∧ (∀ n ∈ l, (Lit.int k n).wf = true) ∧ l.length * B ≤ 140737488351232 := by
  rcases open_ints hu he hc h with ⟨rfl, rfl⟩ | ⟨a, len, cap, zs, rfl, _, hl, hm, hz, hx, hcell, hwz⟩
  · exact ⟨none, [], 0, rfl, Nat.le_refl _, ⟨none, 0, rfl, Nat.le_refl _, trivial, .inl rfl⟩, (fun n hn => by cases hn), by simp⟩
  · have hz' : zs.length = cap := by simpa using hz
    have hlen : (zs.take len).length = len := by rw [List.length_take]; omega
    have hsize := sized_slice hsz ht (elems := lits k (zs.take len)) (spare := lits k (zs.drop len)) (by rw [hd, hx]) hu
    rw [hB] at hsize
    have h1 : (lits (H := H) k (zs.take len)).length + (lits (H := H) k (zs.drop len)).length = zs.length := by
      simp [lits]
      omega
    rw [h1] at hsize
    refine ⟨some a, zs.take len, cap, by rw [hlen], by rw [hlen]; omega, ⟨some a, cap, rfl, by rw [hlen]; omega, trivial, ?_⟩, fun n hn => hwz n (List.mem_of_mem_take hn), by rw [hlen]; exact Nat.le_trans (Nat.mul_le_mul_right _ (by omega)) hsize⟩
    by_cases h0 : len = 0
    · left; subst h0; rfl
    · right
      have hg : ∀ i, i < (zs.take len).length → W.cell? (a.add i) = ((zs.take len).map (Value.int k))[i]? := by
        intro i hi
        rw [hlen] at hi
        rw [hcell i (by omega), List.getElem?_map, List.getElem?_take_of_lt hi, List.getElem?_eq_getElem (by omega), List.getD_eq_getElem?_getD, List.getElem?_eq_getElem (by omega)]; rfl
      have hsp : a.spot = none := by
        have := hg 0 (by rw [hlen]; omega)
        cases hs : a.spot with
        | none => rfl
        | some q =>
          exfalso
          have h2 := hcell 0 (by omega)
          unfold World.cell? at h2
          split at h2
          · have : (a.add 0).spot = some q := hs
            rw [this] at h2; simp at h2
          · cases h2
      obtain ⟨b, off, sp⟩ := a
      subst hsp
      refine ⟨b, off, rfl, ?_⟩
      have := relC_cells (w := W) (b := b) (off := off) (l := (zs.take len).map (Value.int k)) (fun i hi => by rw [List.length_map] at hi; have h5 := hg i hi; by_cases e0 : i = 0 <;> simpa [Addr.add, e0] using h5)
      rw [List.map_map] at this
      exact this
theorem relL_nil (κ : K) (w : World) : RelL κ w [] [] := rfl
theorem relL_cons {κ : K} {w : World} {i : IV} {v : Value} {l : List IV} {vs : List Value} (h : Rel κ w i v) (g : RelL κ w l vs) : RelL κ w (i :: l) (v :: vs) := ⟨v, vs, rfl, h, g⟩
theorem rel_v (κ : K) (w : World) (x : Value) : Rel κ w (.v x) x := rfl
theorem int_wf {x : Int} (h : (Lit.int .i64 x).wf = true) : -9223372036854775808 ≤ x ∧ x ≤ 9223372036854775807 := by
  simp [Lit.wf, IntKind.min, IntKind.max, IntKind.signed, IntKind.bits] at h
  omega
end Go.Proofs.Ytphjldhdnmoolaa.A
