/- For every input InvertTurns answers true: which operations can be turned round, and what they are then. -/
import Derived.Test.YtphjldhdnmoolaaJBase6
import Derived.Test.YtphjldhdnmoolaaRows
set_option linter.unusedVariables false
set_option linter.unusedSimpArgs false
/- The walks of some functions over the abstract machine. -/
namespace Go.Proofs.Ytphjldhdnmoolaa.A
open Go
/-! the document's comparison, of what is the same -/
def EqE (N : Nat) : Prop := ∀ (l : List Expr) (m : Mem), szs l ≤ N → Sim 69 [slE l, slE l, bb true] m (fun r m' => r = bb true ∧ m' = m)
set_option maxRecDepth 100000 in
set_option maxHeartbeats 4000000 in
theorem eqE_step {N : Nat} (hB : N < 900000) (ih : ∀ M, M < N → EqE M) : EqE N := by
  intro l m hN
  have hll := szs_len l
  refine Sim.ofS 87 [.tmp 6] Try.func69 rfl rfl rfl (by simp) fun wr => ?_
  simp only [go_sem, Nat.reduceEqDiff, Nat.reduceBEq, Int.reduceToNat, Int.reduceLT, Int.reduceLE, Int.reduceEq, Nat.reduceLeDiff, Nat.reduceLT, Nat.reduceMul, Nat.reduceAdd, String.reduceEq]
  refine TS.seq (TS.of [] fun Q hQ => ?_)
  simp only [go_sem, Nat.reduceEqDiff, Nat.reduceBEq, Int.reduceToNat, Int.reduceLT, Int.reduceLE, Int.reduceEq, Nat.reduceLeDiff, Nat.reduceLT, Nat.reduceMul, Nat.reduceAdd, String.reduceEq]
  refine hQ .normal _ ?_; clear hQ Q
  refine TS.seq (TS.of [] fun Q hQ => ?_)
  simp only [go_sem, Nat.reduceEqDiff, Nat.reduceBEq, Int.reduceToNat, Int.reduceLT, Int.reduceLE, Int.reduceEq, Nat.reduceLeDiff, Nat.reduceLT, Nat.reduceMul, Nat.reduceAdd, String.reduceEq, eq_self, decide_true, Bool.not_true]
  refine hQ .normal _ ?_; clear hQ Q
  refine TS.seq (TS.seq (TS.of [] fun Q hQ => ?_))
  simp only [go_sem, Nat.reduceEqDiff, Nat.reduceBEq, Int.reduceToNat, Int.reduceLT, Int.reduceLE, Int.reduceEq, Nat.reduceLeDiff, Nat.reduceLT, Nat.reduceMul, Nat.reduceAdd, String.reduceEq]
  refine hQ .normal _ ?_; clear hQ Q
  refine TS.block (TS.loop (α := Nat) (fun k => [(0, slE l), (1, slE l), (2, bb true), (7, ii k)]) (fun _ => m) (fun k => k ≤ l.length) (fun k => l.length - k) 0 (by simp) ⟨by simp [Has, upd_apply, argsT], rfl, Nat.zero_le _⟩ ?_)
  rintro k st hH hm hk
  simp only [Has, List.mem_cons, List.not_mem_nil, or_false, forall_eq_or_imp, forall_eq] at hH; obtain ⟨i0, i1, i2, i7⟩ := hH
  by_cases hlt : k < l.length
  · obtain ⟨x, hx⟩ : ∃ x, l[k]? = some x := ⟨_, List.getElem?_eq_getElem hlt⟩
    have hat := encEs_at hx
    have hlt5 : k * 5 < (encEs l).length := by rw [encEs_length]; omega
    have hw := wrap_succ hlt (by omega)
    have hszx := szs_at hx
    have hsub := fun m => ih (szs x.a) (by omega) x.a m (Nat.le_refl _)
    refine TS.of [] fun Q hQ => ?_
    simp only [go_sem, Nat.reduceEqDiff, Nat.reduceBEq, Int.reduceToNat, Int.reduceLT, Int.reduceLE, Int.reduceEq, Nat.reduceLeDiff, Nat.reduceLT, Nat.reduceMul, Nat.reduceAdd, String.reduceEq, i0, i1, i2, i7, hm, hlt, hat, hlt5, eq_self, decide_true, Bool.not_true]
    refine drn_of ⟨[23, 28, 35, 40, 48, 53, 63, 68, 77, 82], [], []⟩ [0, 0, 3, 7, 15, 0, 0, 96, 224, 480, 1023, 2047, 4095, 4095, 16383, 32767, 65535, 4095, 4095, 397311, 921599, 1970175, 4194303, 8388607, 16777215, 33554431, 33554431, 134217727, 268435455, 536870911, 33554431, 33554431, 3254779903, 7549747199, 16139681791, 34359738367, 68719476735, 137438953471, 274877906943, 549755813887, 1099511627775, 1099511627775, 4398046511103, 8796093022207, 17592186044415, 1099511627775, 1099511627775, 106652627894271, 247390116249599, 528865092960255, 1125899906842623, 2251799813685247, 4503599627370495, 9007199254740991, 18014398509481983, 18014398509481983, 72057594037927935, 144115188075855871, 288230376151711743, 18014398509481983, 18014398509481983, 1747396655419752447, 4053239664633446399, 8664925683060834303, 18014398509481983, 36893488147419103231, 73786976294838206463, 147573952589676412927] (by kernel_rfl) ?_
    simp only [List.append_eq, List.cons_append, List.nil_append]
    simp only [go_sem, Nat.reduceEqDiff, Nat.reduceBEq, Int.reduceToNat, Int.reduceLT, Int.reduceLE, Int.reduceEq, Nat.reduceLeDiff, Nat.reduceLT, Nat.reduceMul, Nat.reduceAdd, String.reduceEq, i0, i1, i2, i7, hm, hlt, hat, hlt5, eq_self, decide_true, Bool.not_true]
    refine cald_eq (hsub _) ?_
    simp only [go_sem, Nat.reduceEqDiff, Nat.reduceBEq, Int.reduceToNat, Int.reduceLT, Int.reduceLE, Int.reduceEq, Nat.reduceLeDiff, Nat.reduceLT, Nat.reduceMul, Nat.reduceAdd, String.reduceEq, i0, i1, i2, i7, hw]
    refine hQ .normal _ ?_; clear hQ Q
    refine ⟨_, _, k + 1, DropW.refl m, ?_, by omega, by omega⟩
    simp [upd_apply, i0, i1, i2, IV.np, SK.np, npEs]
  · refine TS.of [] fun Q hQ => ?_
    simp only [go_sem, Nat.reduceEqDiff, Nat.reduceBEq, Int.reduceToNat, Int.reduceLT, Int.reduceLE, Int.reduceEq, Nat.reduceLeDiff, Nat.reduceLT, Nat.reduceMul, Nat.reduceAdd, String.reduceEq, i0, i1, i2, i7, hm, hlt]
    refine hQ (.exit 0) _ ?_; clear hQ Q
    refine TS.of [] fun Q hQ => ?_
    simp only [go_sem, Nat.reduceEqDiff, Nat.reduceBEq, Int.reduceToNat, Int.reduceLT, Int.reduceLE, Int.reduceEq, Nat.reduceLeDiff, Nat.reduceLT, Nat.reduceMul, Nat.reduceAdd, String.reduceEq]
    refine hQ .ret _ ?_; exact post_ret _ _ _ rfl rfl (DropW.refl _) ⟨rfl, rfl⟩
theorem eqE_all : ∀ N, N < 900000 → EqE N := by
  intro N
  induction N using Nat.strongRecOn with
  | ind N ih => intro hB; exact eqE_step hB fun M hM => ih M hM (by omega)
def EqT (N : Nat) : Prop := ∀ (l : List Stmt) (m : Mem), szt l ≤ N → Sim 70 [slT l, slT l, bb true] m (fun r m' => r = bb true ∧ m' = m)
set_option maxRecDepth 100000 in
set_option maxHeartbeats 4000000 in
theorem eqT_step {N : Nat} (hB : N < 900000) (ih : ∀ M, M < N → EqT M) : EqT N := by
  intro l m hN
  have hll := szt_len l
  refine Sim.ofS 115 [.tmp 6] Try.func70 rfl rfl rfl (by simp) fun wr => ?_
  simp only [go_sem, Nat.reduceEqDiff, Nat.reduceBEq, Int.reduceToNat, Int.reduceLT, Int.reduceLE, Int.reduceEq, Nat.reduceLeDiff, Nat.reduceLT, Nat.reduceMul, Nat.reduceAdd, String.reduceEq]
  refine TS.seq (TS.of [] fun Q hQ => ?_)
  simp only [go_sem, Nat.reduceEqDiff, Nat.reduceBEq, Int.reduceToNat, Int.reduceLT, Int.reduceLE, Int.reduceEq, Nat.reduceLeDiff, Nat.reduceLT, Nat.reduceMul, Nat.reduceAdd, String.reduceEq]
  refine hQ .normal _ ?_; clear hQ Q
  refine TS.seq (TS.of [] fun Q hQ => ?_)
  simp only [go_sem, Nat.reduceEqDiff, Nat.reduceBEq, Int.reduceToNat, Int.reduceLT, Int.reduceLE, Int.reduceEq, Nat.reduceLeDiff, Nat.reduceLT, Nat.reduceMul, Nat.reduceAdd, String.reduceEq, eq_self, decide_true, Bool.not_true]
  refine hQ .normal _ ?_; clear hQ Q
  refine TS.seq (TS.seq (TS.of [] fun Q hQ => ?_))
  simp only [go_sem, Nat.reduceEqDiff, Nat.reduceBEq, Int.reduceToNat, Int.reduceLT, Int.reduceLE, Int.reduceEq, Nat.reduceLeDiff, Nat.reduceLT, Nat.reduceMul, Nat.reduceAdd, String.reduceEq]
  refine hQ .normal _ ?_; clear hQ Q
  refine TS.block (TS.loop (α := Nat) (fun k => [(0, slT l), (1, slT l), (2, bb true), (7, ii k)]) (fun _ => m) (fun k => k ≤ l.length) (fun k => l.length - k) 0 (by simp) ⟨by simp [Has, upd_apply, argsT], rfl, Nat.zero_le _⟩ ?_)
  rintro k st hH hm hk
  simp only [Has, List.mem_cons, List.not_mem_nil, or_false, forall_eq_or_imp, forall_eq] at hH; obtain ⟨i0, i1, i2, i7⟩ := hH
  by_cases hlt : k < l.length
  · obtain ⟨x, hx⟩ : ∃ x, l[k]? = some x := ⟨_, List.getElem?_eq_getElem hlt⟩
    have hat := encTs_at hx
    have hlt7 : k * 7 < (encTs l).length := by rw [encTs_length]; omega
    have hw := wrap_succ hlt (by omega)
    have hszx := szT_at hx
    have hsz := szT_eq x
    have he := fun m => eqE_all (szs x.x) (by omega) x.x m (Nat.le_refl _)
    have hb := fun m => ih (szt x.b) (by omega) x.b m (Nat.le_refl _)
    have hs := fun m => ih (szt x.e) (by omega) x.e m (Nat.le_refl _)
    refine TS.of [] fun Q hQ => ?_
    simp only [go_sem, Nat.reduceEqDiff, Nat.reduceBEq, Int.reduceToNat, Int.reduceLT, Int.reduceLE, Int.reduceEq, Nat.reduceLeDiff, Nat.reduceLT, Nat.reduceMul, Nat.reduceAdd, String.reduceEq, i0, i1, i2, i7, hm, hlt, hat, hlt7, eq_self, decide_true, Bool.not_true]
    refine drn_of ⟨[23, 28, 35, 40, 48, 53, 63, 68], [], []⟩ [0, 0, 3, 7, 15, 0, 0, 96, 224, 480, 1023, 2047, 4095, 4095, 16383, 32767, 65535, 4095, 4095, 397311, 921599, 1970175, 4194303, 8388607, 16777215, 33554431, 33554431, 134217727, 268435455, 536870911, 33554431, 33554431, 3254779903, 7549747199, 16139681791, 34359738367, 68719476735, 137438953471, 274877906943, 549755813887, 1099511627775, 1099511627775, 4398046511103, 8796093022207, 17592186044415, 1099511627775, 1099511627775, 106652627894271, 247390116249599, 528865092960255, 1125899906842623, 2251799813685247, 4503599627370495] (by kernel_rfl) ?_
    simp only [go_sem, Nat.reduceEqDiff, Nat.reduceBEq, Int.reduceToNat, Int.reduceLT, Int.reduceLE, Int.reduceEq, Nat.reduceLeDiff, Nat.reduceLT, Nat.reduceMul, Nat.reduceAdd, String.reduceEq, i0, i1, i2, i7, hm, hlt, hat, hlt7, eq_self, decide_true, Bool.not_true]
    refine drn_of ⟨[76, 81, 90, 95, 105, 110], [], []⟩ [0, 0, 3, 7, 15, 0, 0, 96, 224, 480, 0, 2047, 4095, 8191, 16383, 16383, 65535, 131071, 262143, 16383, 16383, 1589247, 3686399, 7880703, 16383, 33554431, 67108863, 134217727, 268435455, 536870911, 536870911, 2147483647, 4294967295, 8589934591, 536870911, 536870911, 52076478463, 120795955199, 258234908671, 536870911, 1099511627775, 2199023255551, 4398046511103] (by kernel_rfl) ?_
    simp only [go_sem, Nat.reduceEqDiff, Nat.reduceBEq, Int.reduceToNat, Int.reduceLT, Int.reduceLE, Int.reduceEq, Nat.reduceLeDiff, Nat.reduceLT, Nat.reduceMul, Nat.reduceAdd, String.reduceEq, i0, i1, i2, i7, hm, hlt, hat, hlt7, eq_self, decide_true, Bool.not_true]
    refine cald_eq (he _) ?_
    simp only [go_sem, Nat.reduceEqDiff, Nat.reduceBEq, Int.reduceToNat, Int.reduceLT, Int.reduceLE, Int.reduceEq, Nat.reduceLeDiff, Nat.reduceLT, Nat.reduceMul, Nat.reduceAdd, String.reduceEq, i0, i1, i2, i7, hm, hlt, hat, hlt7, eq_self, decide_true, Bool.not_true]
    refine cald_eq (hb _) ?_
    simp only [go_sem, Nat.reduceEqDiff, Nat.reduceBEq, Int.reduceToNat, Int.reduceLT, Int.reduceLE, Int.reduceEq, Nat.reduceLeDiff, Nat.reduceLT, Nat.reduceMul, Nat.reduceAdd, String.reduceEq, i0, i1, i2, i7, hm, hlt, hat, hlt7, eq_self, decide_true, Bool.not_true]
    refine cald_eq (hs _) ?_
    simp only [go_sem, Nat.reduceEqDiff, Nat.reduceBEq, Int.reduceToNat, Int.reduceLT, Int.reduceLE, Int.reduceEq, Nat.reduceLeDiff, Nat.reduceLT, Nat.reduceMul, Nat.reduceAdd, String.reduceEq, i0, i1, i2, i7, hm, hlt, hat, hlt7, eq_self, decide_true, Bool.not_true, hw]
    refine hQ .normal _ ?_; clear hQ Q
    refine ⟨_, _, k + 1, DropW.refl m, ?_, by omega, by omega⟩
    simp [upd_apply, i0, i1, i2, IV.np, SK.np, npTs]
  · refine TS.of [] fun Q hQ => ?_
    simp only [go_sem, Nat.reduceEqDiff, Nat.reduceBEq, Int.reduceToNat, Int.reduceLT, Int.reduceLE, Int.reduceEq, Nat.reduceLeDiff, Nat.reduceLT, Nat.reduceMul, Nat.reduceAdd, String.reduceEq, i0, i1, i2, i7, hm, hlt]
    refine hQ (.exit 0) _ ?_; clear hQ Q
    refine TS.of [] fun Q hQ => ?_
    simp only [go_sem, Nat.reduceEqDiff, Nat.reduceBEq, Int.reduceToNat, Int.reduceLT, Int.reduceLE, Int.reduceEq, Nat.reduceLeDiff, Nat.reduceLT, Nat.reduceMul, Nat.reduceAdd, String.reduceEq]
    refine hQ .ret _ ?_; exact post_ret _ _ _ rfl rfl (DropW.refl _) ⟨rfl, rfl⟩
theorem eqT_all : ∀ N, N < 900000 → EqT N := by
  intro N
  induction N using Nat.strongRecOn with
  | ind N ih => intro hB; exact eqT_step hB fun M hM => ih M hM (by omega)
theorem strs_at {l : List Bytes} {k : Nat} {x : Bytes} (h : l[k]? = some x) : (l.map (IV.v <| .string ·)).drop k = ss x :: (l.map (IV.v <| .string ·)).drop (k + 1) := by
  obtain ⟨hj, rfl⟩ := List.getElem?_eq_some_iff.1 h
  rw [List.drop_eq_getElem_cons (by rw [List.length_map]; exact hj), List.getElem_map]
set_option maxRecDepth 100000 in
set_option maxHeartbeats 4000000 in
theorem same_sim (m : Mem) (d : Def) (hd : DefOK d) : Sim 42 [.agg (encD d), .agg (encD d), bb true] m (fun r m' => r = bb true ∧ m' = m) := by
  have hs := hd.size
  have hn := fun m => eqE_all (szs d.needs) (by omega) d.needs m (Nat.le_refl _)
  have hg := fun m => eqE_all (szs d.give) (by omega) d.give m (Nat.le_refl _)
  have hb := fun m => eqT_all (szt d.body) (by omega) d.body m (Nat.le_refl _)
  have hl := hd.params
  refine Sim.ofS 67 [.tmp 6] Try.func42 rfl rfl rfl (by simp) fun wr => ?_
  simp only [go_sem, Nat.reduceEqDiff, Nat.reduceBEq, Int.reduceToNat, Int.reduceLT, Int.reduceLE, Int.reduceEq, Nat.reduceLeDiff, Nat.reduceLT, Nat.reduceMul, Nat.reduceAdd, String.reduceEq]
  refine TS.seq (TS.of [3, 4] fun Q hQ => ?_)
  simp only [go_sem, Nat.reduceEqDiff, Nat.reduceBEq, Int.reduceToNat, Int.reduceLT, Int.reduceLE, Int.reduceEq, Nat.reduceLeDiff, Nat.reduceLT, Nat.reduceMul, Nat.reduceAdd, String.reduceEq]
  refine hQ .normal _ ?_; clear hQ Q
  refine TS.seq (TS.of [3, 4] fun Q hQ => ?_)
  simp only [go_sem, Nat.reduceEqDiff, Nat.reduceBEq, Int.reduceToNat, Int.reduceLT, Int.reduceLE, Int.reduceEq, Nat.reduceLeDiff, Nat.reduceLT, Nat.reduceMul, Nat.reduceAdd, String.reduceEq, encD, eq_self, decide_true, Bool.not_true]
  refine cal_eq (hn _) ?_
  simp only [go_sem, Nat.reduceEqDiff, Nat.reduceBEq, Int.reduceToNat, Int.reduceLT, Int.reduceLE, Int.reduceEq, Nat.reduceLeDiff, Nat.reduceLT, Nat.reduceMul, Nat.reduceAdd, String.reduceEq]
  refine cal_eq (hb _) ?_
  simp only [go_sem, Nat.reduceEqDiff, Nat.reduceBEq, Int.reduceToNat, Int.reduceLT, Int.reduceLE, Int.reduceEq, Nat.reduceLeDiff, Nat.reduceLT, Nat.reduceMul, Nat.reduceAdd, String.reduceEq]
  refine cal_eq (hg _) ?_
  simp only [go_sem, Nat.reduceEqDiff, Nat.reduceBEq, Int.reduceToNat, Int.reduceLT, Int.reduceLE, Int.reduceEq, Nat.reduceLeDiff, Nat.reduceLT, Nat.reduceMul, Nat.reduceAdd, String.reduceEq]
  refine hQ .normal _ ?_; clear hQ Q
  refine TS.seq (TS.seq (TS.of [] fun Q hQ => ?_))
  simp only [go_sem, Nat.reduceEqDiff, Nat.reduceBEq, Int.reduceToNat, Int.reduceLT, Int.reduceLE, Int.reduceEq, Nat.reduceLeDiff, Nat.reduceLT, Nat.reduceMul, Nat.reduceAdd, String.reduceEq]
  refine hQ .normal _ ?_; clear hQ Q
  refine TS.block (TS.loop (α := Nat) (fun k => [(3, .ref (encD d)), (4, .ref (encD d)), (7, ii k)]) (fun _ => m) (fun k => k ≤ d.params.length) (fun k => d.params.length - k) 0 (by simp) ⟨by simp [Has, upd_apply, encD], rfl, Nat.zero_le _⟩ ?_)
  rintro k st hH hm hk
  simp only [Has, List.mem_cons, List.not_mem_nil, or_false, forall_eq_or_imp, forall_eq] at hH; obtain ⟨i3, i4, i7⟩ := hH
  by_cases hlt : k < d.params.length
  · obtain ⟨x, hx⟩ : ∃ x, d.params[k]? = some x := ⟨_, List.getElem?_eq_getElem hlt⟩
    have hat := strs_at hx
    have hw := wrap_succ hlt (by omega)
    refine TS.of [] fun Q hQ => ?_
    simp only [go_sem, Nat.reduceEqDiff, Nat.reduceBEq, Int.reduceToNat, Int.reduceLT, Int.reduceLE, Int.reduceEq, Nat.reduceLeDiff, Nat.reduceLT, Nat.reduceMul, Nat.reduceAdd, String.reduceEq, i3, i4, i7, hm, hlt, hat, List.length_map, eq_self, decide_true, Bool.not_true]
    refine drn_of ⟨[57, 60, 62, 65], [], []⟩ [0, 1, 0, 7, 15, 0, 32, 0, 224, 480, 1023] (by kernel_rfl) ?_
    simp only [go_sem, Nat.reduceEqDiff, Nat.reduceBEq, Int.reduceToNat, Int.reduceLT, Int.reduceLE, Int.reduceEq, Nat.reduceLeDiff, Nat.reduceLT, Nat.reduceMul, Nat.reduceAdd, String.reduceEq, i3, i4, i7, hm, hlt, hat, List.length_map, eq_self, decide_true, Bool.not_true, hw]
    refine hQ .normal _ ?_; clear hQ Q
    refine ⟨_, _, k + 1, DropW.refl m, ?_, by omega, by omega⟩
    simp [upd_apply, i3, i4, IV.np, npL, SK.np, npS, npEs, npTs]
  · refine TS.of [] fun Q hQ => ?_
    simp only [go_sem, Nat.reduceEqDiff, Nat.reduceBEq, Int.reduceToNat, Int.reduceLT, Int.reduceLE, Int.reduceEq, Nat.reduceLeDiff, Nat.reduceLT, Nat.reduceMul, Nat.reduceAdd, String.reduceEq, i3, i4, i7, hm, hlt]
    refine hQ (.exit 0) _ ?_; clear hQ Q
    refine TS.of [] fun Q hQ => ?_
    simp only [go_sem, Nat.reduceEqDiff, Nat.reduceBEq, Int.reduceToNat, Int.reduceLT, Int.reduceLE, Int.reduceEq, Nat.reduceLeDiff, Nat.reduceLT, Nat.reduceMul, Nat.reduceAdd, String.reduceEq]
    refine hQ .ret _ ?_; exact post_ret _ _ _ rfl rfl (DropW.refl _) ⟨rfl, rfl⟩
end Go.Proofs.Ytphjldhdnmoolaa.A
/- The walks of some functions over the abstract machine. -/
namespace Go.Proofs.Ytphjldhdnmoolaa.A
open Go
/-! the document's turned block -/
theorem turnR_drop {l : List Stmt} {k : Nat} {x : Stmt} (h : l[k]? = some x) : turnR (l.drop k) = if x.k = 1 then turnR (l.drop (k + 1)) else turnS x :: turnR (l.drop (k + 1)) := by
  obtain ⟨hk, rfl⟩ := List.getElem?_eq_some_iff.1 h
  rw [List.drop_eq_getElem_cons hk, turnR]
theorem DropW.accS (m : Mem) (p k : Nat) (xs : List IObj) : DropW (accM m p) m.objs.length (accM m (p + k)).rows.length ⟨m.objs ++ xs, (accM m (p + k)).rows⟩ (accM m (p + k)) := DropW.acc (m0 := accM m p) (m1 := accM m (p + k)) xs rfl rfl rfl (accM_len m p k)
theorem DropW.accS0 (m : Mem) (p k : Nat) : DropW (accM m p) m.objs.length (accM m (p + k)).rows.length (accM m (p + k)) (accM m (p + k)) := by have h := DropW.accS m p k []; rw [List.append_nil] at h; exact h
def RBC (N : Nat) : Prop := ∀ (l : List Stmt) (m : Mem), szt l ≤ N → Sim 68 [slT l] m (fun r m' => r = slT (turnB l) ∧ m' = m)
def outR (l : List Stmt) (j : Nat) : List Stmt := letsT l ++ (turnR (l.drop j)).reverse
theorem outR_len (l : List Stmt) (j : Nat) : (outR l j).length ≤ l.length := by
  have h1 := lr_len l
  have h2 : turnR l = turnR (l.take j) ++ turnR (l.drop j) := by rw [← turnR_app, List.take_append_drop]
  have h3 : (turnR l).length = (turnR (l.take j)).length + (turnR (l.drop j)).length := by rw [h2, List.length_append]
  rw [outR, List.length_append, List.length_reverse]; omega
set_option maxRecDepth 100000 in
set_option maxHeartbeats 4000000 in
theorem rblock_step {N : Nat} (hB : N < 900000) (ih : ∀ M, M < N → RBC M) : RBC N := by
  intro l m hN
  have hll := szt_len l
  refine Sim.ofS 81 [.tmp 2] Try.func68 rfl rfl rfl (by simp) fun wr => ?_
  simp only [go_sem, Nat.reduceEqDiff, Nat.reduceBEq, Int.reduceToNat, Int.reduceLT, Int.reduceLE, Int.reduceEq, Nat.reduceLeDiff, Nat.reduceLT, Nat.reduceMul, Nat.reduceAdd, String.reduceEq]
  refine TS.seq (TS.of [] fun Q hQ => ?_)
  simp only [go_sem, Nat.reduceEqDiff, Nat.reduceBEq, Int.reduceToNat, Int.reduceLT, Int.reduceLE, Int.reduceEq, Nat.reduceLeDiff, Nat.reduceLT, Nat.reduceMul, Nat.reduceAdd, String.reduceEq]
  refine hQ .normal _ ?_; clear hQ Q
  refine TS.seq (TS.of [] fun Q hQ => ?_)
  simp only [go_sem, Nat.reduceEqDiff, Nat.reduceBEq, Int.reduceToNat, Int.reduceLT, Int.reduceLE, Int.reduceEq, Nat.reduceLeDiff, Nat.reduceLT, Nat.reduceMul, Nat.reduceAdd, String.reduceEq]
  refine hQ .normal _ ?_; clear hQ Q
  refine TS.seq (TS.seq (TS.of [] fun Q hQ => ?_))
  simp only [go_sem, Nat.reduceEqDiff, Nat.reduceBEq, Int.reduceToNat, Int.reduceLT, Int.reduceLE, Int.reduceEq, Nat.reduceLeDiff, Nat.reduceLT, Nat.reduceMul, Nat.reduceAdd, String.reduceEq]
  refine hQ .normal _ ?_; clear hQ Q
  refine TS.block (TS.loop (α := Nat) (fun k => [(0, slT l), (4, ii k), (3, .sl (accK m.rows.length 104 (letsT (l.take k)).length) (letsT (l.take k)).length (encTs (letsT (l.take k))))]) (fun k => accM m (letsT (l.take k)).length) (fun k => k ≤ l.length) (fun k => l.length - k) 0 (by simp) ⟨by simp [Has, upd_apply, argsT, letsT, accK, encTs], by simp [letsT, accM_0], Nat.zero_le _⟩ ?_)
  rintro k st hH hm hk
  simp only [Has, List.mem_cons, List.not_mem_nil, or_false, forall_eq_or_imp, forall_eq] at hH; obtain ⟨i0, i4, i3⟩ := hH
  by_cases hlt : k < l.length
  · obtain ⟨x, hx⟩ : ∃ x, l[k]? = some x := ⟨_, List.getElem?_eq_getElem hlt⟩
    have hat := encTs_at hx
    have hlt7 : k * 7 < (encTs l).length := by rw [encTs_length]; omega
    have hw := wrap_succ hlt (by omega)
    have htk := take_snoc hx
    have ip : (letsT (l.take k)).length ≤ l.length := Nat.le_trans (letsT_le _) (by rw [List.length_take]; omega)
    by_cases k1 : x.k = 1
    · have e1 : letsT (l.take (k + 1)) = letsT (l.take k) ++ [x] := by rw [htk, letsT_app, letsT, if_pos k1]; rfl
      have happ := acc_app m 104 (letsT (l.take k)).length 1 (by decide)
      have hb : ((letsT (l.take k)).length + 1) * 112 ≤ 140737488355328 := by omega
      have htk7 : (encTs (letsT (l.take k))).length = (letsT (l.take k)).length * 7 := encTs_length _
      refine TS.of [] fun Q hQ => ?_
      simp only [go_sem, Nat.reduceEqDiff, Nat.reduceBEq, Int.reduceToNat, Int.reduceLT, Int.reduceLE, Int.reduceEq, Nat.reduceLeDiff, Nat.reduceLT, Nat.reduceMul, Nat.reduceAdd, String.reduceEq, i0, i4, i3, hm, hlt, hat, hlt7, eq_true k1]
      simp only [go_sem, Nat.reduceEqDiff, Nat.reduceBEq, Int.reduceToNat, Int.reduceLT, Int.reduceLE, Int.reduceEq, Nat.reduceLeDiff, Nat.reduceLT, Nat.reduceMul, Nat.reduceAdd, String.reduceEq, i0, i4, i3, hlt, hat, hlt7, happ, htk7, hb, hw]
      refine hQ .normal _ ?_; clear hQ Q
      refine ⟨_, _, k + 1, by rw [e1, show (letsT (l.take k) ++ [x]).length = (letsT (l.take k)).length + 1 by simp]; exact DropW.accS0 m _ 1, ?_, by omega, by omega⟩
      rw [e1, List.length_append, encTs_app]
      simp [upd_apply, i0, IV.np, npEs, npTs, encTs, encT_eq]
      exact ⟨rfl, accK_np m 104 _, npL_app (npTs _ _ _) (by simp [npL, IV.np, SK.np, npEs, npTs])⟩
    · have e1 : letsT (l.take (k + 1)) = letsT (l.take k) := by rw [htk, letsT_app, letsT, if_neg k1]; simp [letsT]
      refine TS.of [] fun Q hQ => ?_
      simp only [go_sem, Nat.reduceEqDiff, Nat.reduceBEq, Int.reduceToNat, Int.reduceLT, Int.reduceLE, Int.reduceEq, Nat.reduceLeDiff, Nat.reduceLT, Nat.reduceMul, Nat.reduceAdd, String.reduceEq, i0, i4, i3, hm, hlt, hat, hlt7, eq_false k1]
      simp only [go_sem, Nat.reduceEqDiff, Nat.reduceBEq, Int.reduceToNat, Int.reduceLT, Int.reduceLE, Int.reduceEq, Nat.reduceLeDiff, Nat.reduceLT, Nat.reduceMul, Nat.reduceAdd, String.reduceEq, i0, i4, i3, hlt, hat, hlt7, hw]
      refine hQ .normal _ ?_; clear hQ Q
      refine ⟨_, _, k + 1, by rw [e1]; exact DropW.accS0 m _ 0, ?_, by omega, by omega⟩
      rw [e1]
      simp [upd_apply, i0, i3, IV.np, npEs, npTs]
      exact ⟨rfl, accK_np m 104 _⟩
  · have hkl : k = l.length := by omega
    subst hkl
    rw [List.take_length] at i3 hm
    have hw1 : IntKind.i64.wrap ((l.length : Int) - 1) = (l.length : Int) - 1 := wrap_small (by omega) (by omega)
    refine TS.of [] fun Q hQ => ?_
    simp only [go_sem, Nat.reduceEqDiff, Nat.reduceBEq, Int.reduceToNat, Int.reduceLT, Int.reduceLE, Int.reduceEq, Nat.reduceLeDiff, Nat.reduceLT, Nat.reduceMul, Nat.reduceAdd, String.reduceEq, i0, i4, i3, hm, hlt]
    refine hQ (.exit 0) _ ?_; clear hQ Q
    have o0 : outR l l.length = letsT l := by rw [outR, List.drop_length]; simp [turnR]
    clear hlt i4 hk
    refine TS.seq (TS.seq (TS.of [] fun Q hQ => ?_))
    simp only [go_sem, Nat.reduceEqDiff, Nat.reduceBEq, Int.reduceToNat, Int.reduceLT, Int.reduceLE, Int.reduceEq, Nat.reduceLeDiff, Nat.reduceLT, Nat.reduceMul, Nat.reduceAdd, String.reduceEq, i0, hm, hw1]
    refine hQ .normal _ ?_; clear hQ Q
    refine TS.block (TS.loop (α := Nat) (fun j => [(0, slT l), (5, ii ((j : Int) - 1)), (3, .sl (accK m.rows.length 104 (outR l j).length) (outR l j).length (encTs (outR l j)))]) (fun j => accM m (outR l j).length) (fun j => j ≤ l.length) (fun j => j) l.length (by simp) ⟨by simp [Has, upd_apply, i0, i3, o0], by rw [o0], Nat.le_refl _⟩ ?_)
    clear i0 i3 hm o0
    clear st
    rintro j st hH hm hj
    simp only [Has, List.mem_cons, List.not_mem_nil, or_false, forall_eq_or_imp, forall_eq] at hH; obtain ⟨i0, i5, i3⟩ := hH
    cases j with
    | zero =>
      rw [show (((0 : Nat) : Int) - 1) = -1 from rfl] at i5
      refine TS.of [] fun Q hQ => ?_
      simp only [go_sem, Nat.reduceEqDiff, Nat.reduceBEq, Int.reduceToNat, Int.reduceLT, Int.reduceLE, Int.reduceEq, Nat.reduceLeDiff, Nat.reduceLT, Nat.reduceMul, Nat.reduceAdd, String.reduceEq, i0, i5, i3, hm]
      refine hQ (.exit 2) _ ?_; clear hQ Q
      have o0 : outR l 0 = turnB l := rfl
      rw [o0] at i3 hm
      refine TS.of [] fun Q hQ => ?_
      simp only [go_sem, Nat.reduceEqDiff, Nat.reduceBEq, Int.reduceToNat, Int.reduceLT, Int.reduceLE, Int.reduceEq, Nat.reduceLeDiff, Nat.reduceLT, Nat.reduceMul, Nat.reduceAdd, String.reduceEq, i0, i3]
      refine hQ .ret _ ?_; clear hQ Q; refine post_ret _ _ (slT (turnB l)) ?_ ?_ (DropW.accN m _) ⟨rfl, rfl⟩
      · simp only [go_sem, Nat.reduceEqDiff, Nat.reduceBEq, Int.reduceToNat, Int.reduceLT, Int.reduceLE, Int.reduceEq, Nat.reduceLeDiff, Nat.reduceLT, Nat.reduceMul, Nat.reduceAdd, String.reduceEq]
      · simp [IV.np, SK.np, npTs]
    | succ k =>
      rw [show (((k + 1 : Nat) : Int) - 1) = (k : Int) by omega] at i5
      have hlt : k < l.length := by omega
      obtain ⟨x, hx⟩ : ∃ x, l[k]? = some x := ⟨_, List.getElem?_eq_getElem hlt⟩
      have hat := encTs_at hx
      have hlt7 : k * 7 < (encTs l).length := by rw [encTs_length]; omega
      have hki : (k : Int) < (l.length : Int) := by omega
      have hw : IntKind.i64.wrap ((k : Int) - 1) = (k : Int) - 1 := wrap_small (by omega) (by omega)
      have hszx := szT_at hx
      have hsz := szT_eq x
      have hb1 := fun m => ih (szt x.b) (by omega) x.b m (Nat.le_refl _)
      have hb2 := fun m => ih (szt x.e) (by omega) x.e m (Nat.le_refl _)
      have htd := turnR_drop hx
      by_cases k1 : x.k = 1
      · have e1 : outR l k = outR l (k + 1) := by rw [outR, outR, htd, if_pos k1]
        refine TS.of [] fun Q hQ => ?_
        simp only [go_sem, Nat.reduceEqDiff, Nat.reduceBEq, Int.reduceToNat, Int.reduceLT, Int.reduceLE, Int.reduceEq, Nat.reduceLeDiff, Nat.reduceLT, Nat.reduceMul, Nat.reduceAdd, String.reduceEq, i0, i5, i3, hm, hat, hlt7, hki, eq_true k1]
        simp only [go_sem, Nat.reduceEqDiff, Nat.reduceBEq, Int.reduceToNat, Int.reduceLT, Int.reduceLE, Int.reduceEq, Nat.reduceLeDiff, Nat.reduceLT, Nat.reduceMul, Nat.reduceAdd, String.reduceEq, hw]
        refine hQ .normal _ ?_; clear hQ Q
        refine ⟨_, _, k, by rw [e1]; exact DropW.accS m _ 0 [_], ?_, by omega, by omega⟩
        rw [e1]
        simp [upd_apply, i0, i3, IV.np, npEs, npTs]
        exact ⟨rfl, accK_np m 104 _⟩
      · have e1 : outR l k = outR l (k + 1) ++ [.mk (kindsP x.k) x.s x.x x.n (turnB x.b) (turnB x.e) x.p] := by rw [outR, outR, htd, if_neg k1, turnS_eq']; simp
        have happ := acc_app m 104 (outR l (k + 1)).length 1 (by decide)
        have ho := outR_len l (k + 1)
        have hb : ((outR l (k + 1)).length + 1) * 112 ≤ 140737488355328 := by omega
        have htk7 : (encTs (outR l (k + 1))).length = (outR l (k + 1)).length * 7 := encTs_length _
        by_cases q3 : x.k = 3
        · have hkp : kindsP x.k = 4 := by rw [q3]; rfl
          rw [hkp] at e1
          refine TS.of [] fun Q hQ => ?_
          simp only [go_sem, Nat.reduceEqDiff, Nat.reduceBEq, Int.reduceToNat, Int.reduceLT, Int.reduceLE, Int.reduceEq, Nat.reduceLeDiff, Nat.reduceLT, Nat.reduceMul, Nat.reduceAdd, String.reduceEq, i0, i5, i3, hm, hat, hlt7, hki, q3, eq_false k1]
          refine cal_eq (hb1 _) ?_
          simp only [go_sem, Nat.reduceEqDiff, Nat.reduceBEq, Int.reduceToNat, Int.reduceLT, Int.reduceLE, Int.reduceEq, Nat.reduceLeDiff, Nat.reduceLT, Nat.reduceMul, Nat.reduceAdd, String.reduceEq, i0, i5, i3]
          refine cal_eq (hb2 _) ?_
          simp only [go_sem, Nat.reduceEqDiff, Nat.reduceBEq, Int.reduceToNat, Int.reduceLT, Int.reduceLE, Int.reduceEq, Nat.reduceLeDiff, Nat.reduceLT, Nat.reduceMul, Nat.reduceAdd, String.reduceEq, i0, i5, i3, happ, htk7, hb, hw]
          refine hQ .normal _ ?_; clear hQ Q
          refine ⟨_, _, k, by rw [e1, List.length_append]; exact DropW.accS m _ 1 [_], ?_, by omega, by omega⟩
          rw [e1, List.length_append, encTs_app]
          simp [upd_apply, i0, IV.np, npEs, npTs, encTs, encT]
          exact ⟨rfl, accK_np m 104 _, npL_app (npTs _ _ _) (by simp [npL, IV.np, SK.np, npEs, npTs])⟩
        by_cases q4 : x.k = 4
        · have hkp : kindsP x.k = 3 := by rw [q4]; rfl
          rw [hkp] at e1
          refine TS.of [] fun Q hQ => ?_
          simp only [go_sem, Nat.reduceEqDiff, Nat.reduceBEq, Int.reduceToNat, Int.reduceLT, Int.reduceLE, Int.reduceEq, Nat.reduceLeDiff, Nat.reduceLT, Nat.reduceMul, Nat.reduceAdd, String.reduceEq, i0, i5, i3, hm, hat, hlt7, hki, q4, eq_false k1]
          refine cal_eq (hb1 _) ?_
          simp only [go_sem, Nat.reduceEqDiff, Nat.reduceBEq, Int.reduceToNat, Int.reduceLT, Int.reduceLE, Int.reduceEq, Nat.reduceLeDiff, Nat.reduceLT, Nat.reduceMul, Nat.reduceAdd, String.reduceEq, i0, i5, i3]
          refine cal_eq (hb2 _) ?_
          simp only [go_sem, Nat.reduceEqDiff, Nat.reduceBEq, Int.reduceToNat, Int.reduceLT, Int.reduceLE, Int.reduceEq, Nat.reduceLeDiff, Nat.reduceLT, Nat.reduceMul, Nat.reduceAdd, String.reduceEq, i0, i5, i3, happ, htk7, hb, hw]
          refine hQ .normal _ ?_; clear hQ Q
          refine ⟨_, _, k, by rw [e1, List.length_append]; exact DropW.accS m _ 1 [_], ?_, by omega, by omega⟩
          rw [e1, List.length_append, encTs_app]
          simp [upd_apply, i0, IV.np, npEs, npTs, encTs, encT]
          exact ⟨rfl, accK_np m 104 _, npL_app (npTs _ _ _) (by simp [npL, IV.np, SK.np, npEs, npTs])⟩
        by_cases q7 : x.k = 7
        · have hkp : kindsP x.k = 8 := by rw [q7]; rfl
          rw [hkp] at e1
          refine TS.of [] fun Q hQ => ?_
          simp only [go_sem, Nat.reduceEqDiff, Nat.reduceBEq, Int.reduceToNat, Int.reduceLT, Int.reduceLE, Int.reduceEq, Nat.reduceLeDiff, Nat.reduceLT, Nat.reduceMul, Nat.reduceAdd, String.reduceEq, i0, i5, i3, hm, hat, hlt7, hki, q7, eq_false k1]
          refine cal_eq (hb1 _) ?_
          simp only [go_sem, Nat.reduceEqDiff, Nat.reduceBEq, Int.reduceToNat, Int.reduceLT, Int.reduceLE, Int.reduceEq, Nat.reduceLeDiff, Nat.reduceLT, Nat.reduceMul, Nat.reduceAdd, String.reduceEq, i0, i5, i3]
          refine cal_eq (hb2 _) ?_
          simp only [go_sem, Nat.reduceEqDiff, Nat.reduceBEq, Int.reduceToNat, Int.reduceLT, Int.reduceLE, Int.reduceEq, Nat.reduceLeDiff, Nat.reduceLT, Nat.reduceMul, Nat.reduceAdd, String.reduceEq, i0, i5, i3, happ, htk7, hb, hw]
          refine hQ .normal _ ?_; clear hQ Q
          refine ⟨_, _, k, by rw [e1, List.length_append]; exact DropW.accS m _ 1 [_], ?_, by omega, by omega⟩
          rw [e1, List.length_append, encTs_app]
          simp [upd_apply, i0, IV.np, npEs, npTs, encTs, encT]
          exact ⟨rfl, accK_np m 104 _, npL_app (npTs _ _ _) (by simp [npL, IV.np, SK.np, npEs, npTs])⟩
        by_cases q8 : x.k = 8
        · have hkp : kindsP x.k = 7 := by rw [q8]; rfl
          rw [hkp] at e1
          refine TS.of [] fun Q hQ => ?_
          simp only [go_sem, Nat.reduceEqDiff, Nat.reduceBEq, Int.reduceToNat, Int.reduceLT, Int.reduceLE, Int.reduceEq, Nat.reduceLeDiff, Nat.reduceLT, Nat.reduceMul, Nat.reduceAdd, String.reduceEq, i0, i5, i3, hm, hat, hlt7, hki, q8, eq_false k1]
          refine cal_eq (hb1 _) ?_
          simp only [go_sem, Nat.reduceEqDiff, Nat.reduceBEq, Int.reduceToNat, Int.reduceLT, Int.reduceLE, Int.reduceEq, Nat.reduceLeDiff, Nat.reduceLT, Nat.reduceMul, Nat.reduceAdd, String.reduceEq, i0, i5, i3]
          refine cal_eq (hb2 _) ?_
          simp only [go_sem, Nat.reduceEqDiff, Nat.reduceBEq, Int.reduceToNat, Int.reduceLT, Int.reduceLE, Int.reduceEq, Nat.reduceLeDiff, Nat.reduceLT, Nat.reduceMul, Nat.reduceAdd, String.reduceEq, i0, i5, i3, happ, htk7, hb, hw]
          refine hQ .normal _ ?_; clear hQ Q
          refine ⟨_, _, k, by rw [e1, List.length_append]; exact DropW.accS m _ 1 [_], ?_, by omega, by omega⟩
          rw [e1, List.length_append, encTs_app]
          simp [upd_apply, i0, IV.np, npEs, npTs, encTs, encT]
          exact ⟨rfl, accK_np m 104 _, npL_app (npTs _ _ _) (by simp [npL, IV.np, SK.np, npEs, npTs])⟩
        have hkp : kindsP x.k = x.k := by unfold kindsP; rw [if_neg q3, if_neg q4, if_neg q7, if_neg q8]
        rw [hkp] at e1
        refine TS.of [] fun Q hQ => ?_
        simp only [go_sem, Nat.reduceEqDiff, Nat.reduceBEq, Int.reduceToNat, Int.reduceLT, Int.reduceLE, Int.reduceEq, Nat.reduceLeDiff, Nat.reduceLT, Nat.reduceMul, Nat.reduceAdd, String.reduceEq, i0, i5, i3, hm, hat, hlt7, hki, q3, q4, q7, q8, eq_false k1]
        refine cal_eq (hb1 _) ?_
        simp only [go_sem, Nat.reduceEqDiff, Nat.reduceBEq, Int.reduceToNat, Int.reduceLT, Int.reduceLE, Int.reduceEq, Nat.reduceLeDiff, Nat.reduceLT, Nat.reduceMul, Nat.reduceAdd, String.reduceEq, i0, i5, i3]
        refine cal_eq (hb2 _) ?_
        simp only [go_sem, Nat.reduceEqDiff, Nat.reduceBEq, Int.reduceToNat, Int.reduceLT, Int.reduceLE, Int.reduceEq, Nat.reduceLeDiff, Nat.reduceLT, Nat.reduceMul, Nat.reduceAdd, String.reduceEq, i0, i5, i3, happ, htk7, hb, hw]
        refine hQ .normal _ ?_; clear hQ Q
        refine ⟨_, _, k, by rw [e1, List.length_append]; exact DropW.accS m _ 1 [_], ?_, by omega, by omega⟩
        rw [e1, List.length_append, encTs_app]
        simp [upd_apply, i0, IV.np, npEs, npTs, encTs, encT]
        exact ⟨rfl, accK_np m 104 _, npL_app (npTs _ _ _) (by simp [npL, IV.np, SK.np, npEs, npTs])⟩
theorem rblock_all : ∀ N, N < 900000 → RBC N := by
  intro N
  induction N using Nat.strongRecOn with
  | ind N ih => intro hB; exact rblock_step hB fun M hM => ih M hM (by omega)
theorem rblock_sim (l : List Stmt) (h : szt l < 900000) (m : Mem) : Sim 68 [slT l] m (fun r m' => r = slT (turnB l) ∧ m' = m) := rblock_all (szt l) h l m (Nat.le_refl _)
def rturnI (d : Def) : IV := if (rcheck d).2.1 = 0 ∧ (rcheck d).1.turns = true then .tup [.agg (encD (turnD d)), ii 0] else .tup [.agg (encD ⟨ByteArray.empty, [], [], [], []⟩), ii 13]
set_option maxRecDepth 100000 in
set_option maxHeartbeats 4000000 in
theorem rturn_sim (m : Mem) (d : Def) (hd : DefOK d) (ha : argTs d.body) : Sim 41 [.agg (encD d)] m (fun r m' => r = rturnI d ∧ m' = m) := by
  have hck := fun m => rcheck_sim m d hd ha
  have hbl := fun m => rblock_sim d.body (by have := hd.size; omega) m
  have hgo : rturnI d = if (rcheck d).2.1 = 0 ∧ (rcheck d).1.turns = true then .tup [.agg (encD (turnD d)), ii 0] else .tup [.agg (encD ⟨ByteArray.empty, [], [], [], []⟩), ii 13] := rfl
  generalize rcheck d = X at hck hgo
  obtain ⟨⟨i1, i2, i3, i4⟩, c, a⟩ := X
  dsimp only at hck hgo
  refine Sim.ofS 29 [.cell 2 27, .tmp 3] Try.func41 rfl rfl rfl (by simp) fun wr => ?_
  simp only [go_sem, Nat.reduceEqDiff, Nat.reduceBEq, Int.reduceToNat, Int.reduceLT, Int.reduceLE, Int.reduceEq, Nat.reduceLeDiff, Nat.reduceLT, Nat.reduceMul, Nat.reduceAdd, String.reduceEq]
  refine TS.seq (TS.of [1] fun Q hQ => ?_)
  simp only [go_sem, Nat.reduceEqDiff, Nat.reduceBEq, Int.reduceToNat, Int.reduceLT, Int.reduceLE, Int.reduceEq, Nat.reduceLeDiff, Nat.reduceLT, Nat.reduceMul, Nat.reduceAdd, String.reduceEq]
  refine hQ .normal _ ?_; clear hQ Q
  refine TS.seq (TS.of [] fun Q hQ => ?_)
  simp only [go_sem, Nat.reduceEqDiff, Nat.reduceBEq, Int.reduceToNat, Int.reduceLT, Int.reduceLE, Int.reduceEq, Nat.reduceLeDiff, Nat.reduceLT, Nat.reduceMul, Nat.reduceAdd, String.reduceEq, encD]
  refine cal_eq (hck _) ?_
  simp only [go_sem, Nat.reduceEqDiff, Nat.reduceBEq, Int.reduceToNat, Int.reduceLT, Int.reduceLE, Int.reduceEq, Nat.reduceLeDiff, Nat.reduceLT, Nat.reduceMul, Nat.reduceAdd, String.reduceEq]
  refine hQ .normal _ ?_; clear hQ Q
  by_cases hc : c = 0
  · cases i4 with
    | true =>
      refine TS.seq (TS.of [] fun Q hQ => ?_)
      simp only [go_sem, Nat.reduceEqDiff, Nat.reduceBEq, Int.reduceToNat, Int.reduceLT, Int.reduceLE, Int.reduceEq, Nat.reduceLeDiff, Nat.reduceLT, Nat.reduceMul, Nat.reduceAdd, String.reduceEq, eq_true hc]
      refine hQ .normal _ ?_; clear hQ Q
      refine TS.of [] fun Q hQ => ?_
      simp only [go_sem, Nat.reduceEqDiff, Nat.reduceBEq, Int.reduceToNat, Int.reduceLT, Int.reduceLE, Int.reduceEq, Nat.reduceLeDiff, Nat.reduceLT, Nat.reduceMul, Nat.reduceAdd, String.reduceEq]
      refine drn_of ⟨[22, 24, 26], [], []⟩ [0, 1, 0, 4, 0, 16, 48, 127, 255, 511] (by kernel_rfl) ?_
      simp only [go_sem, Nat.reduceEqDiff, Nat.reduceBEq, Int.reduceToNat, Int.reduceLT, Int.reduceLE, Int.reduceEq, Nat.reduceLeDiff, Nat.reduceLT, Nat.reduceMul, Nat.reduceAdd, String.reduceEq, encD]
      refine cald_eq (hbl _) ?_
      simp only [go_sem, Nat.reduceEqDiff, Nat.reduceBEq, Int.reduceToNat, Int.reduceLT, Int.reduceLE, Int.reduceEq, Nat.reduceLeDiff, Nat.reduceLT, Nat.reduceMul, Nat.reduceAdd, String.reduceEq]
      refine hQ .ret _ ?_; clear hQ Q; refine post_ret _ _ (.tup [.agg (encD (turnD d)), ii 0]) ?_ ?_ (DropW.tail0 _ rfl) ⟨by rw [hgo, hc]; rfl, rfl⟩
      · simp only [go_sem, Nat.reduceEqDiff, Nat.reduceBEq, Int.reduceToNat, Int.reduceLT, Int.reduceLE, Int.reduceEq, Nat.reduceLeDiff, Nat.reduceLT, Nat.reduceMul, Nat.reduceAdd, String.reduceEq] <;> rfl
      · simp [IV.np, npL, SK.np, npS, npTs, npEs]
    | false =>
      refine TS.of [] fun Q hQ => ?_
      simp only [go_sem, Nat.reduceEqDiff, Nat.reduceBEq, Int.reduceToNat, Int.reduceLT, Int.reduceLE, Int.reduceEq, Nat.reduceLeDiff, Nat.reduceLT, Nat.reduceMul, Nat.reduceAdd, String.reduceEq, eq_true hc]
      refine hQ .ret _ ?_; clear hQ Q; refine post_ret _ _ (.tup [.agg (encD ⟨ByteArray.empty, [], [], [], []⟩), ii 13]) ?_ ?_ (DropW.tail0 _ rfl) ⟨by rw [hgo, if_neg (fun h => by cases h.2)], rfl⟩
      · simp only [go_sem, Nat.reduceEqDiff, Nat.reduceBEq, Int.reduceToNat, Int.reduceLT, Int.reduceLE, Int.reduceEq, Nat.reduceLeDiff, Nat.reduceLT, Nat.reduceMul, Nat.reduceAdd, String.reduceEq] <;> rfl
      · simp [IV.np, npL, SK.np, npEs, npTs, npS]
  · refine TS.of [] fun Q hQ => ?_
    simp only [go_sem, Nat.reduceEqDiff, Nat.reduceBEq, Int.reduceToNat, Int.reduceLT, Int.reduceLE, Int.reduceEq, Nat.reduceLeDiff, Nat.reduceLT, Nat.reduceMul, Nat.reduceAdd, String.reduceEq, eq_false hc]
    refine hQ .ret _ ?_; clear hQ Q; refine post_ret _ _ (.tup [.agg (encD ⟨ByteArray.empty, [], [], [], []⟩), ii 13]) ?_ ?_ (DropW.tail0 _ rfl) ⟨by rw [hgo, if_neg (fun h => hc h.1)], rfl⟩
    · simp only [go_sem, Nat.reduceEqDiff, Nat.reduceBEq, Int.reduceToNat, Int.reduceLT, Int.reduceLE, Int.reduceEq, Nat.reduceLeDiff, Nat.reduceLT, Nat.reduceMul, Nat.reduceAdd, String.reduceEq] <;> rfl
    · simp [IV.np, npL, SK.np, npEs, npTs, npS]
end Go.Proofs.Ytphjldhdnmoolaa.A
/- The walks of some functions over the abstract machine. -/
namespace Go.Proofs.Ytphjldhdnmoolaa.A
open Go
/-! which operations can be turned, and what they are then -/
theorem rturn_can {d : Def} (hf : FitD d) (ho : DefOK d) (h : canT d) : rturnI d = .tup [.agg (encD (turnD d)), ii 0] := by
  have h5 : (rcheck d).1.turns = true := by
    rw [(rcheck_fine hf ho h.1).1]
    show (!hasTs 2 2 d.body && !readsTs d.body) = true
    rw [h.2.1, h.2.2]; rfl
  unfold rturnI
  rw [if_pos ⟨h.1, h5⟩]
theorem rturn_not {d : Def} (hf : FitD d) (ho : DefOK d) (h : ¬ canT d) : rturnI d = .tup [.agg (encD ⟨ByteArray.empty, [], [], [], []⟩), ii 13] := by
  unfold rturnI
  rw [if_neg ?_]
  rintro ⟨h1, h2⟩
  rw [(rcheck_fine hf ho h1).1] at h2
  have h5 : (!hasTs 2 2 d.body && !readsTs d.body) = true := h2
  simp only [Bool.and_eq_true, Bool.not_eq_true'] at h5
  exact h ⟨h1, h5.1, h5.2⟩
theorem ok_zero : DefOK ⟨ByteArray.empty, [], [], [], []⟩ := ⟨by decide, by decide, trivial⟩
theorem num_13 (m : Mem) : Sim 31 [.iface 76 (ii 13)] m (fun r m' => r = ii 13 ∧ m' = m) := num_sim m 13
theorem num_0 (m : Mem) : Sim 31 [.v .nilIface] m (fun r m' => r = ii 0 ∧ m' = m) := num_sim m 0
set_option maxRecDepth 100000 in
set_option maxHeartbeats 4000000 in
theorem iturns_law (m : Mem) (s : Bytes) : Sim 12 [ss s] m (fun r m' => r = bb true ∧ m' = m) := by
  have hp := fun m => parsed_sim m s
  refine Sim.ofS 49 [.tmp 2] Try.func12 rfl rfl rfl (by simp) fun wr => ?_
  simp only [go_sem, Nat.reduceEqDiff, Nat.reduceBEq, Int.reduceToNat, Int.reduceLT, Int.reduceLE, Int.reduceEq, Nat.reduceLeDiff, Nat.reduceLT, Nat.reduceMul, Nat.reduceAdd, String.reduceEq]
  refine TS.seq (TS.of [] fun Q hQ => ?_)
  simp only [go_sem, Nat.reduceEqDiff, Nat.reduceBEq, Int.reduceToNat, Int.reduceLT, Int.reduceLE, Int.reduceEq, Nat.reduceLeDiff, Nat.reduceLT, Nat.reduceMul, Nat.reduceAdd, String.reduceEq]
  refine hQ .normal _ ?_; clear hQ Q
  refine TS.seq (TS.of [] fun Q hQ => ?_)
  simp only [go_sem, Nat.reduceEqDiff, Nat.reduceBEq, Int.reduceToNat, Int.reduceLT, Int.reduceLE, Int.reduceEq, Nat.reduceLeDiff, Nat.reduceLT, Nat.reduceMul, Nat.reduceAdd, String.reduceEq]
  refine cal_eq (alive10_sim _) ?_
  simp only [go_sem, Nat.reduceEqDiff, Nat.reduceBEq, Int.reduceToNat, Int.reduceLT, Int.reduceLE, Int.reduceEq, Nat.reduceLeDiff, Nat.reduceLT, Nat.reduceMul, Nat.reduceAdd, String.reduceEq]
  refine hQ .normal _ ?_; clear hQ Q
  refine TS.seq (TS.of [] fun Q hQ => ?_)
  simp only [go_sem, Nat.reduceEqDiff, Nat.reduceBEq, Int.reduceToNat, Int.reduceLT, Int.reduceLE, Int.reduceEq, Nat.reduceLeDiff, Nat.reduceLT, Nat.reduceMul, Nat.reduceAdd, String.reduceEq]
  refine cal_eq (hp _) ?_
  simp only [go_sem, Nat.reduceEqDiff, Nat.reduceBEq, Int.reduceToNat, Int.reduceLT, Int.reduceLE, Int.reduceEq, Nat.reduceLeDiff, Nat.reduceLT, Nat.reduceMul, Nat.reduceAdd, String.reduceEq, encD]
  refine hQ .normal _ ?_; clear hQ Q
  by_cases b1 : (parse s).2.1 = 0
  rotate_left
  · refine TS.of [] fun Q hQ => ?_
    simp only [go_sem, Nat.reduceEqDiff, Nat.reduceBEq, Int.reduceToNat, Int.reduceLT, Int.reduceLE, Int.reduceEq, Nat.reduceLeDiff, Nat.reduceLT, Nat.reduceMul, Nat.reduceAdd, String.reduceEq, eq_false b1]
    refine hQ .ret _ ?_; clear hQ Q; refine post_ret _ _ (bb true) ?_ ?_ (DropW.tail0 _ rfl) ⟨rfl, rfl⟩
    · simp only [go_sem, Nat.reduceEqDiff, Nat.reduceBEq, Int.reduceToNat, Int.reduceLT, Int.reduceLE, Int.reduceEq, Nat.reduceLeDiff, Nat.reduceLT, Nat.reduceMul, Nat.reduceAdd, String.reduceEq]
    · rfl
  have hf := parse_fit b1
  have ho := parse_ok b1
  have ht := fun m => turn_sim m (parse s).1 ho
  have hr := fun m => rturn_sim m (parse s).1 ho (fits_arg _ hf.body)
  have hs1 := fun m => same_sim m (parse s).1 ho
  have hs2 := fun m => same_sim m (turnD (parse s).1) (ok_turn hf ho)
  have y1 := turnI_can hf ho
  have y2 := turnI_not hf ho
  have z1 := rturn_can hf ho
  have z2 := rturn_not hf ho
  generalize parse s = P0 at *
  obtain ⟨d, c0, p0⟩ := P0
  dsimp only at b1 hf ho ht hr hs1 hs2 y1 y2 z1 z2 hp
  subst b1
  refine TS.seq (TS.of [] fun Q hQ => ?_)
  simp only [go_sem, Nat.reduceEqDiff, Nat.reduceBEq, Int.reduceToNat, Int.reduceLT, Int.reduceLE, Int.reduceEq, Nat.reduceLeDiff, Nat.reduceLT, Nat.reduceMul, Nat.reduceAdd, String.reduceEq, eq_self, decide_true]
  refine hQ .normal _ ?_; clear hQ Q
  by_cases hcn : canT d
  · rw [y1 hcn] at ht
    rw [z1 hcn] at hr
    refine TS.seq (TS.of [] fun Q hQ => ?_)
    simp only [go_sem, Nat.reduceEqDiff, Nat.reduceBEq, Int.reduceToNat, Int.reduceLT, Int.reduceLE, Int.reduceEq, Nat.reduceLeDiff, Nat.reduceLT, Nat.reduceMul, Nat.reduceAdd, String.reduceEq, encD]
    refine cal_eq (ht _) ?_
    simp only [go_sem, Nat.reduceEqDiff, Nat.reduceBEq, Int.reduceToNat, Int.reduceLT, Int.reduceLE, Int.reduceEq, Nat.reduceLeDiff, Nat.reduceLT, Nat.reduceMul, Nat.reduceAdd, String.reduceEq, encD]
    refine hQ .normal _ ?_; clear hQ Q
    refine TS.seq (TS.of [] fun Q hQ => ?_)
    simp only [go_sem, Nat.reduceEqDiff, Nat.reduceBEq, Int.reduceToNat, Int.reduceLT, Int.reduceLE, Int.reduceEq, Nat.reduceLeDiff, Nat.reduceLT, Nat.reduceMul, Nat.reduceAdd, String.reduceEq, encD]
    refine cal_eq (hr _) ?_
    simp only [go_sem, Nat.reduceEqDiff, Nat.reduceBEq, Int.reduceToNat, Int.reduceLT, Int.reduceLE, Int.reduceEq, Nat.reduceLeDiff, Nat.reduceLT, Nat.reduceMul, Nat.reduceAdd, String.reduceEq, encD]
    refine hQ .normal _ ?_; clear hQ Q
    refine TS.seq (TS.of [] fun Q hQ => ?_)
    simp only [go_sem, Nat.reduceEqDiff, Nat.reduceBEq, Int.reduceToNat, Int.reduceLT, Int.reduceLE, Int.reduceEq, Nat.reduceLeDiff, Nat.reduceLT, Nat.reduceMul, Nat.reduceAdd, String.reduceEq]
    refine cal_eq (hp _) ?_
    simp only [go_sem, Nat.reduceEqDiff, Nat.reduceBEq, Int.reduceToNat, Int.reduceLT, Int.reduceLE, Int.reduceEq, Nat.reduceLeDiff, Nat.reduceLT, Nat.reduceMul, Nat.reduceAdd, String.reduceEq, encD, eq_self, decide_true]
    refine hQ .normal _ ?_; clear hQ Q
    refine TS.of [] fun Q hQ => ?_
    simp only [go_sem, Nat.reduceEqDiff, Nat.reduceBEq, Int.reduceToNat, Int.reduceLT, Int.reduceLE, Int.reduceEq, Nat.reduceLeDiff, Nat.reduceLT, Nat.reduceMul, Nat.reduceAdd, String.reduceEq, encD]
    refine cal_eq (hs2 _) ?_
    simp only [go_sem, Nat.reduceEqDiff, Nat.reduceBEq, Int.reduceToNat, Int.reduceLT, Int.reduceLE, Int.reduceEq, Nat.reduceLeDiff, Nat.reduceLT, Nat.reduceMul, Nat.reduceAdd, String.reduceEq]
    refine cal_eq (num_0 _) ?_
    simp only [go_sem, Nat.reduceEqDiff, Nat.reduceBEq, Int.reduceToNat, Int.reduceLT, Int.reduceLE, Int.reduceEq, Nat.reduceLeDiff, Nat.reduceLT, Nat.reduceMul, Nat.reduceAdd, String.reduceEq, eq_self, decide_true]
    refine cal_eq (hs1 _) ?_
    simp only [go_sem, Nat.reduceEqDiff, Nat.reduceBEq, Int.reduceToNat, Int.reduceLT, Int.reduceLE, Int.reduceEq, Nat.reduceLeDiff, Nat.reduceLT, Nat.reduceMul, Nat.reduceAdd, String.reduceEq]
    refine hQ .ret _ ?_; clear hQ Q; refine post_ret _ _ (bb true) ?_ ?_ (DropW.tail0 _ rfl) ⟨rfl, rfl⟩
    · simp only [go_sem, Nat.reduceEqDiff, Nat.reduceBEq, Int.reduceToNat, Int.reduceLT, Int.reduceLE, Int.reduceEq, Nat.reduceLeDiff, Nat.reduceLT, Nat.reduceMul, Nat.reduceAdd, String.reduceEq]
    · rfl
  · rw [y2 hcn] at ht
    rw [z2 hcn] at hr
    refine TS.seq (TS.of [] fun Q hQ => ?_)
    simp only [go_sem, Nat.reduceEqDiff, Nat.reduceBEq, Int.reduceToNat, Int.reduceLT, Int.reduceLE, Int.reduceEq, Nat.reduceLeDiff, Nat.reduceLT, Nat.reduceMul, Nat.reduceAdd, String.reduceEq, encD]
    refine cal_eq (ht _) ?_
    simp only [go_sem, Nat.reduceEqDiff, Nat.reduceBEq, Int.reduceToNat, Int.reduceLT, Int.reduceLE, Int.reduceEq, Nat.reduceLeDiff, Nat.reduceLT, Nat.reduceMul, Nat.reduceAdd, String.reduceEq, encD]
    refine hQ .normal _ ?_; clear hQ Q
    refine TS.seq (TS.of [] fun Q hQ => ?_)
    simp only [go_sem, Nat.reduceEqDiff, Nat.reduceBEq, Int.reduceToNat, Int.reduceLT, Int.reduceLE, Int.reduceEq, Nat.reduceLeDiff, Nat.reduceLT, Nat.reduceMul, Nat.reduceAdd, String.reduceEq, encD]
    refine cal_eq (hr _) ?_
    simp only [go_sem, Nat.reduceEqDiff, Nat.reduceBEq, Int.reduceToNat, Int.reduceLT, Int.reduceLE, Int.reduceEq, Nat.reduceLeDiff, Nat.reduceLT, Nat.reduceMul, Nat.reduceAdd, String.reduceEq, encD]
    refine hQ .normal _ ?_; clear hQ Q
    refine TS.seq (TS.of [] fun Q hQ => ?_)
    simp only [go_sem, Nat.reduceEqDiff, Nat.reduceBEq, Int.reduceToNat, Int.reduceLT, Int.reduceLE, Int.reduceEq, Nat.reduceLeDiff, Nat.reduceLT, Nat.reduceMul, Nat.reduceAdd, String.reduceEq]
    refine cal_eq (hp _) ?_
    simp only [go_sem, Nat.reduceEqDiff, Nat.reduceBEq, Int.reduceToNat, Int.reduceLT, Int.reduceLE, Int.reduceEq, Nat.reduceLeDiff, Nat.reduceLT, Nat.reduceMul, Nat.reduceAdd, String.reduceEq, encD, eq_self, decide_true]
    refine hQ .normal _ ?_; clear hQ Q
    refine TS.of [] fun Q hQ => ?_
    simp only [go_sem, Nat.reduceEqDiff, Nat.reduceBEq, Int.reduceToNat, Int.reduceLT, Int.reduceLE, Int.reduceEq, Nat.reduceLeDiff, Nat.reduceLT, Nat.reduceMul, Nat.reduceAdd, String.reduceEq, encD]
    refine cal_eq (same_sim _ _ ok_zero) ?_
    simp only [go_sem, Nat.reduceEqDiff, Nat.reduceBEq, Int.reduceToNat, Int.reduceLT, Int.reduceLE, Int.reduceEq, Nat.reduceLeDiff, Nat.reduceLT, Nat.reduceMul, Nat.reduceAdd, String.reduceEq]
    refine cal_eq (num_13 _) ?_
    simp only [go_sem, Nat.reduceEqDiff, Nat.reduceBEq, Int.reduceToNat, Int.reduceLT, Int.reduceLE, Int.reduceEq, Nat.reduceLeDiff, Nat.reduceLT, Nat.reduceMul, Nat.reduceAdd, String.reduceEq, eq_self, decide_true]
    refine cal_eq (hs1 _) ?_
    simp only [go_sem, Nat.reduceEqDiff, Nat.reduceBEq, Int.reduceToNat, Int.reduceLT, Int.reduceLE, Int.reduceEq, Nat.reduceLeDiff, Nat.reduceLT, Nat.reduceMul, Nat.reduceAdd, String.reduceEq]
    refine hQ .ret _ ?_; clear hQ Q; refine post_ret _ _ (bb true) ?_ ?_ (DropW.tail0 _ rfl) ⟨rfl, rfl⟩
    · simp only [go_sem, Nat.reduceEqDiff, Nat.reduceBEq, Int.reduceToNat, Int.reduceLT, Int.reduceLE, Int.reduceEq, Nat.reduceLeDiff, Nat.reduceLT, Nat.reduceMul, Nat.reduceAdd, String.reduceEq]
    · rfl
end Go.Proofs.Ytphjldhdnmoolaa.A
/- For every input InvertTurns answers true: which operations can be turned round, and what they are then. -/
namespace Go.Proofs.Ytphjldhdnmoolaa.invertTurns
open Go Go.ChangeShapes Go.WideShapes Go.ChangeAt Go.RowKit Go.Joins Go.Proofs.Ytphjldhdnmoolaa.A
set_option maxRecDepth 100000 in
theorem lifted (os : Os) (started : os.Started) (H : Type) (enc : TypeId × Value → H) :
    ReturnsInHanded {} Try.checked os 12 .any (Rows.invertTurnsSpec.pre6 enc Try.prog Try.f12 Rows.invertTurnsRow.domain false) (Rows.invertTurnsSpec.post enc Try.prog Try.f12 false true false false) := by
  refine returnsInHanded_of_change_sized (C := Try.checked) own started (by kernel_rfl) Try.func12
    (ChangeSpec.witness6 (enc := enc) (C := Try.checked) false ⟨#[], #[.string ByteArray.empty], []⟩ 8 (by kernel_rfl) (by kernel_rfl) (by kernel_rfl) (by kernel_rfl)) ?_
  intro W base args ds gs before hval0 hW hcnd hsz0 _
  have hsz : (DataW.weightsEach Try.prog (Try.f12.params.toList ++ Rows.invertTurnsSpec.plain.varTypes Try.prog) (ds ++ gs)).all (· ≤ reachBytes) = true := hsz0
  have hval : ∀ (j : Nat) t v, Try.f12.params[j]? = some t → args[j]? = some v → Value.okWide Try.prog W .any base t v := hval0
  have hW' := hW
  obtain ⟨p, q, hA0, hV, rfl, hfz, hnd⟩ := hW
  have hA : DataW.TrodAll enc Try.prog W 0 (fun _ => true) true Try.f12.params.toList args.toList ds p := hA0
  rw [Try.params12] at hA hval hsz
  obtain ⟨v0, vs0, d0, ds0, p0, q0, hargs, rfl, rfl, h0, r0⟩ := trodAll_cons hA
  obtain ⟨rfl, rfl, rfl⟩ := trodAll_nil r0
  obtain rfl : args = #[v0] := by cases args; simp_all
  obtain ⟨rfl, rfl⟩ := trodVars_none hV
  have k0 := h0
  obtain ⟨a0, rfl, rfl, rfl, w0⟩ := open_string Try.underlying9 (hval 0 9 v0 rfl rfl) h0
  clear hA0 hval0 hsz0
  refine (calls_of_sim (iturns_law _ _) (relL_cons (rel_v _ _ _) (relL_nil _ _))).mono fun e W' ⟨he, bel⟩ => ?_
  subst he
  exact ⟨_, rfl, _, _, _, [], _, [], hW', trodAll_mk1 (shut_bool Try.underlying4 _), (trodAll_cons_mk (Below.trod laidOut (by kernel_rfl) (of_decide_eq_true (by kernel_rfl)) k0 bel (places_lt k0)) trodAll_mk0), rfl, bel.frame _, fun h => by cases h⟩
set_option maxRecDepth 100000
theorem rec1 : Try.prog.recurses 12 = true := fact_recurses 12 90 (by kernel_rfl) (by kernel_rfl) (by kernel_rfl)
theorem q0 : (Rows.invertTurnsRow.wf (OpenSpec.ofChange Rows.invertTurnsSpec)) = true := by kernel_rfl
theorem q3 : (Try.f12.params.all (Try.prog.readableRec ·)) = true := by kernel_rfl
theorem q4 : (namedTie Try.prog Rows.invertTurnsRow.named Rows.invertTurnsSpec.vars) = true := by kernel_rfl
theorem q5 : (Rows.invertTurnsRow.stops == []) = true := by kernel_rfl
theorem q7 : (Rows.invertTurnsRow.knobs == []) = true := by kernel_rfl
theorem q9 : (Rows.invertTurnsRow.inPlace == Try.prog.inPlace 12) = true := by kernel_rfl
theorem q10 : (Rows.invertTurnsRow.unfollowed == Try.prog.unfollowed 12) = true := by kernel_rfl
theorem q11 : (Rows.invertTurnsRow.recurses == Try.prog.recurses 12) = true := by rw [rec1]; kernel_rfl
theorem q12 : (Rows.invertTurnsRow.named == Try.prog.varsNamed 12) = true := by kernel_rfl
theorem q13 : (Rows.invertTurnsRow.maps == (Try.f12.params.toList ++ Rows.invertTurnsSpec.plain.varTypes Try.prog).any (Try.prog.mapsRec ·)) = true := by kernel_rfl
theorem q14 : (Rows.invertTurnsRow.ifaces == (Try.f12.params.toList ++ Rows.invertTurnsSpec.plain.varTypes Try.prog).any (Try.prog.ifacesRec ·)) = true := by kernel_rfl
theorem q15 : (Rows.invertTurnsRow.mapsOut == Try.prog.mapsAmong Try.f12.resultTypes.toList) = true := by kernel_rfl
theorem q16 : (Rows.invertTurnsRow.loops == (Try.f12.params.toList ++ Rows.invertTurnsSpec.plain.varTypes Try.prog).any (Try.prog.loopsFrom ·)) = true := by kernel_rfl
theorem q17 : (Rows.invertTurnsRow.wideKeys == (Try.f12.params.toList ++ Rows.invertTurnsSpec.plain.varTypes Try.prog ++ Try.f12.resultTypes.toList).any (Try.prog.wideKeysFrom ·)) = true := by kernel_rfl
theorem q18 : (Rows.invertTurnsSpec.vars.all (Try.prog.varReadable ·)) = true := by kernel_rfl
theorem q19 : (Try.f12.resultTypes.all (fun t => Try.prog.readableRec t && decide (t < Try.prog.types.size))) = true := by kernel_rfl
theorem q20 : (Rows.invertTurnsRow.ifacesOut == Try.f12.resultTypes.toList.any (Try.prog.ifacesRec ·)) = true := by kernel_rfl
theorem q21 : (Rows.invertTurnsRow.loopsOut == Try.f12.resultTypes.toList.any (Try.prog.loopsFrom ·)) = true := by kernel_rfl
theorem q23 : (Rows.invertTurnsRow.shortTexts.isNone) = true := by kernel_rfl
theorem q28 : (Rows.invertTurnsRow.kinds == (if Rows.invertTurnsRow.domain.isEmpty then [] else Try.f12.params.toList.map fun t => match Try.prog.underlying t with | some (.int k) => some k | _ => none)) = true := by kernel_rfl
theorem q29 : (Rows.invertTurnsRow.pinned == Rows.invertTurnsRow.pinnedBy) = true := by kernel_rfl
theorem q30 : (Rows.invertTurnsRow.veiled == (Try.f12.params.toList ++ Rows.invertTurnsSpec.plain.varTypes Try.prog ++ Try.f12.resultTypes.toList).any (Try.prog.veiledRec ·)) = true := by kernel_rfl
theorem q31 : (Rows.invertTurnsRow.veiledFits Try.prog Try.f12.params.toList (Try.f12.params.toList ++ Rows.invertTurnsSpec.plain.varTypes Try.prog ++ Try.f12.resultTypes.toList)) = true := by kernel_rfl
theorem joined : joinedFacts Try.prog 12 Try.f12 Rows.invertTurnsSpec Rows.invertTurnsRow = true := (and2 (and2 (and2 (and2 (and2 (and2 (and2 (and2 (and2 (and2 (and2 (and2 (and2 (and2 (and2 (and2 (and2 (and2 (and2 (and2 (and2 (and2 (and2 (and2 (and2 (and2 (and2 (and2 (and2 (and2 (and2 q0 fact_laid) fact_maps) q3) q4) q5) fact_stops) q7) fact_knobs) q9) q10) q11) q12) q13) q14) q15) q16) q17) q18) q19) q20) q21) fact_keys) q23) fact_heard) fact_enter) fact_lifted) fact_make) q28) q29) q30) q31)
theorem over : Rows.invertTurnsRow.holds Try.pinned (OpenSpec.ofChange Rows.invertTurnsSpec) :=
  OpenClaim.holds_of_wide 12 Try.f12 rfl rfl rfl rfl rfl rfl rfl ⟨rfl, rfl, rfl, rfl, rfl⟩ rfl rfl rfl rfl rfl (by kernel_rfl) Try.func12 joined
    (of_decide_eq_true (by kernel_rfl)) (by unfold Func.isWrapper; first | (rw [if_pos (by decide +kernel)]; kernel_rfl) | (rw [if_neg (by decide +kernel)]; exact ⟨rfl, rfl⟩))
    (fun os started H enc _ => lifted os started H enc)
theorem proved : Rows.InvertTurnsSaid := over
#print axioms proved
end Go.Proofs.Ytphjldhdnmoolaa.invertTurns
namespace Go.Proofs.Ytphjldhdnmoolaa
/-- The row, under a short name, for the claim. -/
theorem invertTurns_holds : Rows.InvertTurnsSaid := invertTurns.proved
end Go.Proofs.Ytphjldhdnmoolaa
