/- For every input CheckScopes answers true: where a name is known. -/
import Derived.Test.YtphjldhdnmoolaaJBase5
import Derived.Test.YtphjldhdnmoolaaRows
set_option linter.unusedVariables false
set_option linter.unusedSimpArgs false
/- The walks of some functions over the abstract machine. -/
namespace Go.Proofs.Ytphjldhdnmoolaa.A
open Go
/-! closed texts, quickly; CheckScopes -/
def parseQ (s : Bytes) : Def × Int × Int :=
  let t := quick s
  if t.2.1 ≠ 0 then (D0, t.2.1, t.2.2)
  else let d := defP t.1
    if fixP t.1 d.2 < 0 then (D0, 8, (tk t.1 (-1 - fixP t.1 d.2)).p) else (d.1, 0, 0)
theorem parse_Q (s : Bytes) : parse s = parseQ s := by unfold parse parseQ; rw [tokens_quick]
def checkedQ (s : Bytes) : Info × Int × Int × Bool := if (parseQ s).2.1 = 0 then ((check (parseQ s).1).1, (faultP (check (parseQ s).1).2).1, (faultP (check (parseQ s).1).2).2, true) else (Info0, 0, 0, false)
theorem checked_Q (s : Bytes) : checkedP s = checkedQ s := by unfold checkedP checkedQ; rw [parse_Q]
theorem umodc (p : Int) (c : Nat) (hc : 0 < c) (hc' : c < 1000) : ∃ k : Nat, k < c ∧ IntKind.i64.wrap ((IntKind.u64.wrap p).tmod c) = (k : Int) := by
  have h0 : 0 ≤ IntKind.u64.wrap p := by simp only [IntKind.wrap, IntKind.bits, IntKind.signed]; simp; omega
  have h1 := Int.emod_nonneg (IntKind.u64.wrap p) (b := (c : Int)) (by omega)
  have h2 := Int.emod_lt_of_pos (IntKind.u64.wrap p) (b := (c : Int)) (by omega)
  refine ⟨((IntKind.u64.wrap p).tmod c).toNat, ?_, ?_⟩
  · rw [Int.tmod_eq_emod_of_nonneg h0]; omega
  · rw [Int.tmod_eq_emod_of_nonneg h0, wrap_small (by omega) (by omega)]; omega
theorem scope_mod (p : Int) : ∃ k : Nat, k < 6 ∧ IntKind.i64.wrap ((IntKind.u64.wrap p).tmod 6) = (k : Int) := umodc p 6 (by decide) (by decide)
abbrev scT (a b c d e f : Bytes) : Bytes := (⟨#[111, 112, 32, 111, 40, 41, 32, 123, 32]⟩ : Bytes) ++ a ++ ⟨#[105, 102, 32, 116, 114, 117, 101, 32, 123, 32]⟩ ++ b ++ ⟨#[108, 101, 116, 32, 119, 32, 61, 32, 49, 59, 32]⟩ ++ c ++ ⟨#[102, 111, 114, 32, 105, 32, 105, 110, 32, 48, 46, 46, 50, 32, 123, 32]⟩ ++ d ++ ⟨#[125, 32, 125, 32, 101, 108, 115, 101, 32, 123, 32]⟩ ++ e ++ ⟨#[125, 32]⟩ ++ f ++ ⟨#[125]⟩
abbrev scU : Bytes := ⟨#[91, 119, 93, 32, 61, 32, 49, 59, 32]⟩
abbrev scE : Bytes := ⟨#[]⟩
set_option maxRecDepth 100000
theorem sc0 : checkedP (scT scU scE scE scE scE scE) = (Info0, 9, 10, true) ∧ (scT scU scE scE scE scE scE)[10]? = some 119 := ⟨by rw [checked_Q]; kernel_rfl, by kernel_rfl⟩
theorem sc1 : checkedP (scT scE scU scE scE scE scE) = (Info0, 9, 20, true) ∧ (scT scE scU scE scE scE scE)[20]? = some 119 := ⟨by rw [checked_Q]; kernel_rfl, by kernel_rfl⟩
theorem sc2 : (checkedP (scT scE scE scU scE scE scE)).2.1 = 0 ∧ (checkedP (scT scE scE scU scE scE scE)).1.mode = 3 ∧ (checkedP (scT scE scE scU scE scE scE)).1.names = 2 ∧ (checkedP (scT scE scE scU scE scE scE)).2.2.2 = true := by rw [checked_Q]; exact ⟨by kernel_rfl, by kernel_rfl, by kernel_rfl, by kernel_rfl⟩
theorem sc3 : (checkedP (scT scE scE scE scU scE scE)).2.1 = 0 ∧ (checkedP (scT scE scE scE scU scE scE)).1.mode = 3 ∧ (checkedP (scT scE scE scE scU scE scE)).1.names = 2 ∧ (checkedP (scT scE scE scE scU scE scE)).2.2.2 = true := by rw [checked_Q]; exact ⟨by kernel_rfl, by kernel_rfl, by kernel_rfl, by kernel_rfl⟩
theorem sc4 : checkedP (scT scE scE scE scE scU scE) = (Info0, 9, 58, true) ∧ (scT scE scE scE scE scU scE)[58]? = some 119 := ⟨by rw [checked_Q]; kernel_rfl, by kernel_rfl⟩
theorem sc5 : checkedP (scT scE scE scE scE scE scU) = (Info0, 9, 60, true) ∧ (scT scE scE scE scE scE scU)[60]? = some 119 := ⟨by rw [checked_Q]; kernel_rfl, by kernel_rfl⟩
set_option maxRecDepth 100000 in
set_option maxHeartbeats 4000000 in
theorem scopes_law (m : Mem) (p : Int) : Sim 10 [ii p] m (fun r m' => r = bb true ∧ m' = m) := by
  obtain ⟨k, hk, hkw⟩ := scope_mod p
  refine Sim.ofS 78 [.tmp 2] Try.func10 rfl rfl rfl (by simp) fun wr => ?_
  simp only [go_sem, true_or, or_true, Int.cast_ofNat_Int, not_true_eq_false, true_implies, forall_const, not_false_eq_true, List.size_toArray, Array.size_empty, and_self, ne_eq, not_false_eq_true, Nat.reduceEqDiff, Nat.mul_one, List.contains_nil, List.contains_cons, Bool.false_or, Bool.or_false, false_implies, implies_true, beq_self_eq_true, Nat.reduceBEq, Int.ofNat_le, Int.reduceToNat, Int.reduceLT, Int.reduceLE, Int.reduceEq, Nat.reduceLeDiff, Nat.reduceLT, Nat.reduceEqDiff, Nat.reduceMul, Nat.reduceAdd, Nat.reduceBEq, List.length_cons, List.length_nil, String.reduceEq]
  refine TS.seq (TS.of [] fun Q hQ => ?_)
  simp only [go_sem, true_or, or_true, Int.cast_ofNat_Int, not_true_eq_false, true_implies, forall_const, not_false_eq_true, List.size_toArray, Array.size_empty, and_self, ne_eq, not_false_eq_true, Nat.reduceEqDiff, Nat.mul_one, List.contains_nil, List.contains_cons, Bool.false_or, Bool.or_false, false_implies, implies_true, beq_self_eq_true, Nat.reduceBEq, Int.ofNat_le, Int.reduceToNat, Int.reduceLT, Int.reduceLE, Int.reduceEq, Nat.reduceLeDiff, Nat.reduceLT, Nat.reduceEqDiff, Nat.reduceMul, Nat.reduceAdd, Nat.reduceBEq, List.length_cons, List.length_nil, String.reduceEq]
  refine hQ .normal _ ?_; clear hQ Q
  refine TS.seq (TS.of [] fun Q hQ => ?_)
  simp only [go_sem, true_or, or_true, Int.cast_ofNat_Int, not_true_eq_false, true_implies, forall_const, not_false_eq_true, List.size_toArray, Array.size_empty, and_self, ne_eq, not_false_eq_true, Nat.reduceEqDiff, Nat.mul_one, List.contains_nil, List.contains_cons, Bool.false_or, Bool.or_false, false_implies, implies_true, beq_self_eq_true, Nat.reduceBEq, Int.ofNat_le, Int.reduceToNat, Int.reduceLT, Int.reduceLE, Int.reduceEq, Nat.reduceLeDiff, Nat.reduceLT, Nat.reduceEqDiff, Nat.reduceMul, Nat.reduceAdd, Nat.reduceBEq, List.length_cons, List.length_nil, String.reduceEq]
  refine cal_eq (alive8_sim _) ?_
  simp only [go_sem, true_or, or_true, Int.cast_ofNat_Int, not_true_eq_false, true_implies, forall_const, not_false_eq_true, List.size_toArray, Array.size_empty, and_self, ne_eq, not_false_eq_true, Nat.reduceEqDiff, Nat.mul_one, List.contains_nil, List.contains_cons, Bool.false_or, Bool.or_false, false_implies, implies_true, beq_self_eq_true, Nat.reduceBEq, Int.ofNat_le, Int.reduceToNat, Int.reduceLT, Int.reduceLE, Int.reduceEq, Nat.reduceLeDiff, Nat.reduceLT, Nat.reduceEqDiff, Nat.reduceMul, Nat.reduceAdd, Nat.reduceBEq, List.length_cons, List.length_nil, String.reduceEq]
  refine hQ .normal _ ?_; clear hQ Q
  refine TS.seq (TS.of [] fun Q hQ => ?_)
  simp only [go_sem, true_or, or_true, Int.cast_ofNat_Int, not_true_eq_false, true_implies, forall_const, not_false_eq_true, List.size_toArray, Array.size_empty, and_self, ne_eq, not_false_eq_true, Nat.reduceEqDiff, Nat.mul_one, List.contains_nil, List.contains_cons, Bool.false_or, Bool.or_false, false_implies, implies_true, beq_self_eq_true, Nat.reduceBEq, Int.ofNat_le, Int.reduceToNat, Int.reduceLT, Int.reduceLE, Int.reduceEq, Nat.reduceLeDiff, Nat.reduceLT, Nat.reduceEqDiff, Nat.reduceMul, Nat.reduceAdd, Nat.reduceBEq, List.length_cons, List.length_nil, String.reduceEq]
  refine hQ .normal _ ?_; clear hQ Q
  have hk6 : k = 0 ∨ k = 1 ∨ k = 2 ∨ k = 3 ∨ k = 4 ∨ k = 5 := by omega
  rcases hk6 with rfl | rfl | rfl | rfl | rfl | rfl
  all_goals refine TS.of [] fun Q hQ => ?_
  all_goals (simp only [go_sem, true_or, or_true, Int.cast_ofNat_Int, not_true_eq_false, true_implies, forall_const, not_false_eq_true, List.size_toArray, Array.size_empty, and_self, ne_eq, not_false_eq_true, Nat.reduceEqDiff, Nat.mul_one, List.contains_nil, List.contains_cons, Bool.false_or, Bool.or_false, false_implies, implies_true, beq_self_eq_true, Nat.reduceBEq, Int.ofNat_le, Int.reduceToNat, Int.reduceLT, Int.reduceLE, Int.reduceEq, Nat.reduceLeDiff, Nat.reduceLT, Nat.reduceEqDiff, Nat.reduceMul, Nat.reduceAdd, Nat.reduceBEq, List.length_cons, List.length_nil, String.reduceEq, hkw, show ¬ ((6 : Int) = 0) by decide])
  case' inr.inr.inl => obtain ⟨q1, q2, q3, q4⟩ := sc2
  case' inr.inr.inr.inl => obtain ⟨q1, q2, q3, q4⟩ := sc3
  case' inl =>
    refine cal_eq (checked_sim _ (scT scU scE scE scE scE scE) (by decide) parse_ok) ?_
    rw [sc0.1]
    have hix := sc0.2
  case' inr.inl =>
    refine cal_eq (checked_sim _ (scT scE scU scE scE scE scE) (by decide) parse_ok) ?_
    rw [sc1.1]
    have hix := sc1.2
  case' inr.inr.inl =>
    refine cal_eq (checked_sim _ (scT scE scE scU scE scE scE) (by decide) parse_ok) ?_
    generalize checkedP _ = X at q1 q2 q3 q4
  case' inr.inr.inr.inl =>
    refine cal_eq (checked_sim _ (scT scE scE scE scU scE scE) (by decide) parse_ok) ?_
    generalize checkedP _ = X at q1 q2 q3 q4
  case' inr.inr.inr.inr.inl =>
    refine cal_eq (checked_sim _ (scT scE scE scE scE scU scE) (by decide) parse_ok) ?_
    rw [sc4.1]
    have hix := sc4.2
  case' inr.inr.inr.inr.inr =>
    refine cal_eq (checked_sim _ (scT scE scE scE scE scE scU) (by decide) parse_ok) ?_
    rw [sc5.1]
    have hix := sc5.2
  all_goals first | (simp only [go_sem, true_or, or_true, Int.cast_ofNat_Int, not_true_eq_false, true_implies, forall_const, not_false_eq_true, List.size_toArray, Array.size_empty, and_self, ne_eq, not_false_eq_true, Nat.reduceEqDiff, Nat.mul_one, List.contains_nil, List.contains_cons, Bool.false_or, Bool.or_false, false_implies, implies_true, beq_self_eq_true, Nat.reduceBEq, Int.ofNat_le, Int.reduceToNat, Int.reduceLT, Int.reduceLE, Int.reduceEq, Nat.reduceLeDiff, Nat.reduceLT, Nat.reduceEqDiff, Nat.reduceMul, Nat.reduceAdd, Nat.reduceBEq, List.length_cons, List.length_nil, String.reduceEq, q1, q2, q3, q4]) | (simp only [go_sem, true_or, or_true, Int.cast_ofNat_Int, not_true_eq_false, true_implies, forall_const, not_false_eq_true, List.size_toArray, Array.size_empty, and_self, ne_eq, not_false_eq_true, Nat.reduceEqDiff, Nat.mul_one, List.contains_nil, List.contains_cons, Bool.false_or, Bool.or_false, false_implies, implies_true, beq_self_eq_true, Nat.reduceBEq, Int.ofNat_le, Int.reduceToNat, Int.reduceLT, Int.reduceLE, Int.reduceEq, Nat.reduceLeDiff, Nat.reduceLT, Nat.reduceEqDiff, Nat.reduceMul, Nat.reduceAdd, Nat.reduceBEq, List.length_cons, List.length_nil, String.reduceEq, hix])
  all_goals (refine hQ .ret _ ?_; clear hQ Q; refine post_ret _ _ (bb true) ?_ rfl (DropW.tail0 _ rfl) ⟨rfl, rfl⟩)
  all_goals simp only [go_sem, true_or, or_true, Int.cast_ofNat_Int, not_true_eq_false, true_implies, forall_const, not_false_eq_true, List.size_toArray, Array.size_empty, and_self, ne_eq, not_false_eq_true, Nat.reduceEqDiff, Nat.mul_one, List.contains_nil, List.contains_cons, Bool.false_or, Bool.or_false, false_implies, implies_true, beq_self_eq_true, Nat.reduceBEq, Int.ofNat_le, Int.reduceToNat, Int.reduceLT, Int.reduceLE, Int.reduceEq, Nat.reduceLeDiff, Nat.reduceLT, Nat.reduceEqDiff, Nat.reduceMul, Nat.reduceAdd, Nat.reduceBEq, List.length_cons, List.length_nil, String.reduceEq]
  all_goals rfl
end Go.Proofs.Ytphjldhdnmoolaa.A
/- For every input CheckScopes answers true: where a name is known. -/
namespace Go.Proofs.Ytphjldhdnmoolaa.checkScopes
open Go Go.ChangeShapes Go.WideShapes Go.ChangeAt Go.RowKit Go.Joins Go.Proofs.Ytphjldhdnmoolaa.A
set_option maxRecDepth 100000 in
theorem lifted (os : Os) (started : os.Started) (H : Type) (enc : TypeId × Value → H) :
    ReturnsInHanded {} Try.checked os 10 .any (Rows.checkScopesSpec.pre6 enc Try.prog Try.f10 Rows.checkScopesRow.domain false) (Rows.checkScopesSpec.post enc Try.prog Try.f10 false true false false) := by
  refine returnsInHanded_of_change_sized (C := Try.checked) own started (by kernel_rfl) Try.func10
    (ChangeSpec.witness6 (enc := enc) (C := Try.checked) false ⟨#[], #[.int .i64 0], []⟩ 8 (by kernel_rfl) (by kernel_rfl) (by kernel_rfl) (by kernel_rfl)) ?_
  intro W base args ds gs before hval0 hW hcnd hsz0 _
  have hsz : (DataW.weightsEach Try.prog (Try.f10.params.toList ++ Rows.checkScopesSpec.plain.varTypes Try.prog) (ds ++ gs)).all (· ≤ reachBytes) = true := hsz0
  have hval : ∀ (j : Nat) t v, Try.f10.params[j]? = some t → args[j]? = some v → Value.okWide Try.prog W .any base t v := hval0
  have hW' := hW
  obtain ⟨p, q, hA0, hV, rfl, hfz, hnd⟩ := hW
  have hA : DataW.TrodAll enc Try.prog W 0 (fun _ => true) true Try.f10.params.toList args.toList ds p := hA0
  rw [Try.params10] at hA hval hsz
  obtain ⟨v0, vs0, d0, ds0, p0, q0, hargs, rfl, rfl, h0, r0⟩ := trodAll_cons hA
  obtain ⟨rfl, rfl, rfl⟩ := trodAll_nil r0
  obtain rfl : args = #[v0] := by cases args; simp_all
  obtain ⟨rfl, rfl⟩ := trodVars_none hV
  obtain ⟨a0, rfl, rfl, rfl, w0⟩ := open_int Try.underlying3 (hval 0 3 v0 rfl rfl) h0
  clear hA0 hval0 hsz0
  refine (calls_of_sim (scopes_law _ _) (relL_cons (rel_v _ _ _) (relL_nil _ _))).mono fun e W' ⟨he, bel⟩ => ?_
  subst he
  exact ⟨_, rfl, _, _, _, [], _, [], hW', trodAll_mk1 (shut_bool Try.underlying4 _), (trodAll_cons_mk (shut_int Try.underlying3 w0) trodAll_mk0), rfl, bel.frame _, fun h => by cases h⟩
set_option maxRecDepth 100000
theorem rec1 : Try.prog.recurses 10 = true := fact_recurses 10 90 (by kernel_rfl) (by kernel_rfl) (by kernel_rfl)
theorem q0 : (Rows.checkScopesRow.wf (OpenSpec.ofChange Rows.checkScopesSpec)) = true := by kernel_rfl
theorem q3 : (Try.f10.params.all (Try.prog.readableRec ·)) = true := by kernel_rfl
theorem q4 : (namedTie Try.prog Rows.checkScopesRow.named Rows.checkScopesSpec.vars) = true := by kernel_rfl
theorem q5 : (Rows.checkScopesRow.stops == []) = true := by kernel_rfl
theorem q7 : (Rows.checkScopesRow.knobs == []) = true := by kernel_rfl
theorem q9 : (Rows.checkScopesRow.inPlace == Try.prog.inPlace 10) = true := by kernel_rfl
theorem q10 : (Rows.checkScopesRow.unfollowed == Try.prog.unfollowed 10) = true := by kernel_rfl
theorem q11 : (Rows.checkScopesRow.recurses == Try.prog.recurses 10) = true := by rw [rec1]; kernel_rfl
theorem q12 : (Rows.checkScopesRow.named == Try.prog.varsNamed 10) = true := by kernel_rfl
theorem q13 : (Rows.checkScopesRow.maps == (Try.f10.params.toList ++ Rows.checkScopesSpec.plain.varTypes Try.prog).any (Try.prog.mapsRec ·)) = true := by kernel_rfl
theorem q14 : (Rows.checkScopesRow.ifaces == (Try.f10.params.toList ++ Rows.checkScopesSpec.plain.varTypes Try.prog).any (Try.prog.ifacesRec ·)) = true := by kernel_rfl
theorem q15 : (Rows.checkScopesRow.mapsOut == Try.prog.mapsAmong Try.f10.resultTypes.toList) = true := by kernel_rfl
theorem q16 : (Rows.checkScopesRow.loops == (Try.f10.params.toList ++ Rows.checkScopesSpec.plain.varTypes Try.prog).any (Try.prog.loopsFrom ·)) = true := by kernel_rfl
theorem q17 : (Rows.checkScopesRow.wideKeys == (Try.f10.params.toList ++ Rows.checkScopesSpec.plain.varTypes Try.prog ++ Try.f10.resultTypes.toList).any (Try.prog.wideKeysFrom ·)) = true := by kernel_rfl
theorem q18 : (Rows.checkScopesSpec.vars.all (Try.prog.varReadable ·)) = true := by kernel_rfl
theorem q19 : (Try.f10.resultTypes.all (fun t => Try.prog.readableRec t && decide (t < Try.prog.types.size))) = true := by kernel_rfl
theorem q20 : (Rows.checkScopesRow.ifacesOut == Try.f10.resultTypes.toList.any (Try.prog.ifacesRec ·)) = true := by kernel_rfl
theorem q21 : (Rows.checkScopesRow.loopsOut == Try.f10.resultTypes.toList.any (Try.prog.loopsFrom ·)) = true := by kernel_rfl
theorem q23 : (Rows.checkScopesRow.shortTexts.isNone) = true := by kernel_rfl
theorem q28 : (Rows.checkScopesRow.kinds == (if Rows.checkScopesRow.domain.isEmpty then [] else Try.f10.params.toList.map fun t => match Try.prog.underlying t with | some (.int k) => some k | _ => none)) = true := by kernel_rfl
theorem q29 : (Rows.checkScopesRow.pinned == Rows.checkScopesRow.pinnedBy) = true := by kernel_rfl
theorem q30 : (Rows.checkScopesRow.veiled == (Try.f10.params.toList ++ Rows.checkScopesSpec.plain.varTypes Try.prog ++ Try.f10.resultTypes.toList).any (Try.prog.veiledRec ·)) = true := by kernel_rfl
theorem q31 : (Rows.checkScopesRow.veiledFits Try.prog Try.f10.params.toList (Try.f10.params.toList ++ Rows.checkScopesSpec.plain.varTypes Try.prog ++ Try.f10.resultTypes.toList)) = true := by kernel_rfl
theorem joined : joinedFacts Try.prog 10 Try.f10 Rows.checkScopesSpec Rows.checkScopesRow = true := (and2 (and2 (and2 (and2 (and2 (and2 (and2 (and2 (and2 (and2 (and2 (and2 (and2 (and2 (and2 (and2 (and2 (and2 (and2 (and2 (and2 (and2 (and2 (and2 (and2 (and2 (and2 (and2 (and2 (and2 (and2 q0 fact_laid) fact_maps) q3) q4) q5) fact_stops) q7) fact_knobs) q9) q10) q11) q12) q13) q14) q15) q16) q17) q18) q19) q20) q21) fact_keys) q23) fact_heard) fact_enter) fact_lifted) fact_make) q28) q29) q30) q31)
theorem over : Rows.checkScopesRow.holds Try.pinned (OpenSpec.ofChange Rows.checkScopesSpec) :=
  OpenClaim.holds_of_wide 10 Try.f10 rfl rfl rfl rfl rfl rfl rfl ⟨rfl, rfl, rfl, rfl, rfl⟩ rfl rfl rfl rfl rfl (by kernel_rfl) Try.func10 joined
    (of_decide_eq_true (by kernel_rfl)) (by unfold Func.isWrapper; first | (rw [if_pos (by decide +kernel)]; kernel_rfl) | (rw [if_neg (by decide +kernel)]; exact ⟨rfl, rfl⟩))
    (fun os started H enc _ => lifted os started H enc)
theorem proved : Rows.CheckScopesSaid := over
#print axioms proved
end Go.Proofs.Ytphjldhdnmoolaa.checkScopes
namespace Go.Proofs.Ytphjldhdnmoolaa
/-- The row, under a short name, for the claim. -/
theorem checkScopes_holds : Rows.CheckScopesSaid := checkScopes.proved
end Go.Proofs.Ytphjldhdnmoolaa
