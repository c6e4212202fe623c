/- For every input EvalOperators answers true: what dividing is. -/
import Derived.Test.YtphjldhdnmoolaaJBase4
import Derived.Test.YtphjldhdnmoolaaRows
set_option linter.unusedVariables false
set_option linter.unusedSimpArgs false
/- For every input EvalOperators answers true: what dividing is. -/
namespace Go.Proofs.Ytphjldhdnmoolaa.evalOperators
open Go Go.ChangeShapes Go.WideShapes Go.ChangeAt Go.RowKit Go.Joins Go.Proofs.Ytphjldhdnmoolaa.A
set_option maxRecDepth 100000 in
theorem lifted (os : Os) (started : os.Started) (H : Type) (enc : TypeId × Value → H) :
    ReturnsInHanded {} Try.checked os 17 .any (Rows.evalOperatorsSpec.pre6 enc Try.prog Try.f17 Rows.evalOperatorsRow.domain false) (Rows.evalOperatorsSpec.post enc Try.prog Try.f17 false true false false) := by
  refine returnsInHanded_of_change_sized (C := Try.checked) own started (by kernel_rfl) Try.func17
    (ChangeSpec.witness6 (enc := enc) (C := Try.checked) false ⟨#[], #[.int .i64 0, .int .i64 0], []⟩ 8 (by kernel_rfl) (by kernel_rfl) (by kernel_rfl) (by kernel_rfl)) ?_
  intro W base args ds gs before hval0 hW hcnd hsz0 _
  have hsz : (DataW.weightsEach Try.prog (Try.f17.params.toList ++ Rows.evalOperatorsSpec.plain.varTypes Try.prog) (ds ++ gs)).all (· ≤ reachBytes) = true := hsz0
  have hval : ∀ (j : Nat) t v, Try.f17.params[j]? = some t → args[j]? = some v → Value.okWide Try.prog W .any base t v := hval0
  have hW' := hW
  obtain ⟨p, q, hA0, hV, rfl, hfz, hnd⟩ := hW
  have hA : DataW.TrodAll enc Try.prog W 0 (fun _ => true) true Try.f17.params.toList args.toList ds p := hA0
  rw [Try.params17] at hA hval hsz
  obtain ⟨v0, vs0, d0, ds0, p0, q0, hargs, rfl, rfl, h0, r0⟩ := trodAll_cons hA
  obtain ⟨v1, vs1, d1, ds1, p1, q1, rfl, rfl, rfl, h1, r1⟩ := trodAll_cons r0
  obtain ⟨rfl, rfl, rfl⟩ := trodAll_nil r1
  obtain rfl : args = #[v0, v1] := by cases args; simp_all
  obtain ⟨rfl, rfl⟩ := trodVars_none hV
  obtain ⟨a0, rfl, rfl, rfl, w0⟩ := open_int Try.underlying3 (hval 0 3 v0 rfl rfl) h0
  obtain ⟨a1, rfl, rfl, rfl, w1⟩ := open_int Try.underlying3 (hval 1 3 v1 rfl rfl) h1
  clear hA0 hval0 hsz0
  refine (calls_of_sim (operators_law _ _ _ (int_wf w0).1 (by have := (int_wf w0).2; omega)) (relL_cons (rel_v _ _ _) (relL_cons (rel_v _ _ _) (relL_nil _ _)))).mono fun e W' ⟨he, bel⟩ => ?_
  subst he
  exact ⟨_, rfl, _, _, _, [], _, [], hW', trodAll_mk1 (shut_bool Try.underlying4 _), (trodAll_cons_mk (shut_int Try.underlying3 w0) (trodAll_cons_mk (shut_int Try.underlying3 w1) trodAll_mk0)), rfl, bel.frame _, fun h => by cases h⟩
set_option maxRecDepth 100000
theorem rec1 : Try.prog.recurses 17 = true := fact_recurses 17 90 (by kernel_rfl) (by kernel_rfl) (by kernel_rfl)
theorem q0 : (Rows.evalOperatorsRow.wf (OpenSpec.ofChange Rows.evalOperatorsSpec)) = true := by kernel_rfl
theorem q3 : (Try.f17.params.all (Try.prog.readableRec ·)) = true := by kernel_rfl
theorem q4 : (namedTie Try.prog Rows.evalOperatorsRow.named Rows.evalOperatorsSpec.vars) = true := by kernel_rfl
theorem q5 : (Rows.evalOperatorsRow.stops == []) = true := by kernel_rfl
theorem q7 : (Rows.evalOperatorsRow.knobs == []) = true := by kernel_rfl
theorem q9 : (Rows.evalOperatorsRow.inPlace == Try.prog.inPlace 17) = true := by kernel_rfl
theorem q10 : (Rows.evalOperatorsRow.unfollowed == Try.prog.unfollowed 17) = true := by kernel_rfl
theorem q11 : (Rows.evalOperatorsRow.recurses == Try.prog.recurses 17) = true := by rw [rec1]; kernel_rfl
theorem q12 : (Rows.evalOperatorsRow.named == Try.prog.varsNamed 17) = true := by kernel_rfl
theorem q13 : (Rows.evalOperatorsRow.maps == (Try.f17.params.toList ++ Rows.evalOperatorsSpec.plain.varTypes Try.prog).any (Try.prog.mapsRec ·)) = true := by kernel_rfl
theorem q14 : (Rows.evalOperatorsRow.ifaces == (Try.f17.params.toList ++ Rows.evalOperatorsSpec.plain.varTypes Try.prog).any (Try.prog.ifacesRec ·)) = true := by kernel_rfl
theorem q15 : (Rows.evalOperatorsRow.mapsOut == Try.prog.mapsAmong Try.f17.resultTypes.toList) = true := by kernel_rfl
theorem q16 : (Rows.evalOperatorsRow.loops == (Try.f17.params.toList ++ Rows.evalOperatorsSpec.plain.varTypes Try.prog).any (Try.prog.loopsFrom ·)) = true := by kernel_rfl
theorem q17 : (Rows.evalOperatorsRow.wideKeys == (Try.f17.params.toList ++ Rows.evalOperatorsSpec.plain.varTypes Try.prog ++ Try.f17.resultTypes.toList).any (Try.prog.wideKeysFrom ·)) = true := by kernel_rfl
theorem q18 : (Rows.evalOperatorsSpec.vars.all (Try.prog.varReadable ·)) = true := by kernel_rfl
theorem q19 : (Try.f17.resultTypes.all (fun t => Try.prog.readableRec t && decide (t < Try.prog.types.size))) = true := by kernel_rfl
theorem q20 : (Rows.evalOperatorsRow.ifacesOut == Try.f17.resultTypes.toList.any (Try.prog.ifacesRec ·)) = true := by kernel_rfl
theorem q21 : (Rows.evalOperatorsRow.loopsOut == Try.f17.resultTypes.toList.any (Try.prog.loopsFrom ·)) = true := by kernel_rfl
theorem q23 : (Rows.evalOperatorsRow.shortTexts.isNone) = true := by kernel_rfl
theorem q28 : (Rows.evalOperatorsRow.kinds == (if Rows.evalOperatorsRow.domain.isEmpty then [] else Try.f17.params.toList.map fun t => match Try.prog.underlying t with | some (.int k) => some k | _ => none)) = true := by kernel_rfl
theorem q29 : (Rows.evalOperatorsRow.pinned == Rows.evalOperatorsRow.pinnedBy) = true := by kernel_rfl
theorem q30 : (Rows.evalOperatorsRow.veiled == (Try.f17.params.toList ++ Rows.evalOperatorsSpec.plain.varTypes Try.prog ++ Try.f17.resultTypes.toList).any (Try.prog.veiledRec ·)) = true := by kernel_rfl
theorem q31 : (Rows.evalOperatorsRow.veiledFits Try.prog Try.f17.params.toList (Try.f17.params.toList ++ Rows.evalOperatorsSpec.plain.varTypes Try.prog ++ Try.f17.resultTypes.toList)) = true := by kernel_rfl
theorem joined : joinedFacts Try.prog 17 Try.f17 Rows.evalOperatorsSpec Rows.evalOperatorsRow = true := (and2 (and2 (and2 (and2 (and2 (and2 (and2 (and2 (and2 (and2 (and2 (and2 (and2 (and2 (and2 (and2 (and2 (and2 (and2 (and2 (and2 (and2 (and2 (and2 (and2 (and2 (and2 (and2 (and2 (and2 (and2 q0 fact_laid) fact_maps) q3) q4) q5) fact_stops) q7) fact_knobs) q9) q10) q11) q12) q13) q14) q15) q16) q17) q18) q19) q20) q21) fact_keys) q23) fact_heard) fact_enter) fact_lifted) fact_make) q28) q29) q30) q31)
theorem over : Rows.evalOperatorsRow.holds Try.pinned (OpenSpec.ofChange Rows.evalOperatorsSpec) :=
  OpenClaim.holds_of_wide 17 Try.f17 rfl rfl rfl rfl rfl rfl rfl ⟨rfl, rfl, rfl, rfl, rfl⟩ rfl rfl rfl rfl rfl (by kernel_rfl) Try.func17 joined
    (of_decide_eq_true (by kernel_rfl)) (by unfold Func.isWrapper; first | (rw [if_pos (by decide +kernel)]; kernel_rfl) | (rw [if_neg (by decide +kernel)]; exact ⟨rfl, rfl⟩))
    (fun os started H enc _ => lifted os started H enc)
theorem proved : Rows.EvalOperatorsSaid := over
#print axioms proved
end Go.Proofs.Ytphjldhdnmoolaa.evalOperators
namespace Go.Proofs.Ytphjldhdnmoolaa
/-- The row, under a short name, for the claim. -/
theorem evalOperators_holds : Rows.EvalOperatorsSaid := evalOperators.proved
end Go.Proofs.Ytphjldhdnmoolaa
