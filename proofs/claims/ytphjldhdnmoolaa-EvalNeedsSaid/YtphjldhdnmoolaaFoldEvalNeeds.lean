/- For every input EvalNeeds answers true: needs ahead of all, what is given behind all. -/
import Derived.Test.YtphjldhdnmoolaaJBase4
import Derived.Test.YtphjldhdnmoolaaRows
set_option linter.unusedVariables false
set_option linter.unusedSimpArgs false
/- For every input EvalNeeds answers true: needs ahead of all, what is given behind all. -/
namespace Go.Proofs.Ytphjldhdnmoolaa.evalNeeds
open Go Go.ChangeShapes Go.WideShapes Go.ChangeAt Go.RowKit Go.Joins Go.Proofs.Ytphjldhdnmoolaa.A
set_option maxRecDepth 100000 in
theorem lifted (os : Os) (started : os.Started) (H : Type) (enc : TypeId × Value → H) :
    ReturnsInHanded {} Try.checked os 18 .any (Rows.evalNeedsSpec.pre6 enc Try.prog Try.f18 Rows.evalNeedsRow.domain false) (Rows.evalNeedsSpec.post enc Try.prog Try.f18 false true false false) := by
  refine returnsInHanded_of_change_sized (C := Try.checked) own started (by kernel_rfl) Try.func18
    (ChangeSpec.witness6 (enc := enc) (C := Try.checked) false ⟨#[], #[.int .i64 0, .int .i64 0, .int .i64 0], []⟩ 8 (by kernel_rfl) (by kernel_rfl) (by kernel_rfl) (by kernel_rfl)) ?_
  intro W base args ds gs before hval0 hW hcnd hsz0 _
  have hsz : (DataW.weightsEach Try.prog (Try.f18.params.toList ++ Rows.evalNeedsSpec.plain.varTypes Try.prog) (ds ++ gs)).all (· ≤ reachBytes) = true := hsz0
  have hval : ∀ (j : Nat) t v, Try.f18.params[j]? = some t → args[j]? = some v → Value.okWide Try.prog W .any base t v := hval0
  have hW' := hW
  obtain ⟨p, q, hA0, hV, rfl, hfz, hnd⟩ := hW
  have hA : DataW.TrodAll enc Try.prog W 0 (fun _ => true) true Try.f18.params.toList args.toList ds p := hA0
  rw [Try.params18] at hA hval hsz
  obtain ⟨v0, vs0, d0, ds0, p0, q0, hargs, rfl, rfl, h0, r0⟩ := trodAll_cons hA
  obtain ⟨v1, vs1, d1, ds1, p1, q1, rfl, rfl, rfl, h1, r1⟩ := trodAll_cons r0
  obtain ⟨v2, vs2, d2, ds2, p2, q2, rfl, rfl, rfl, h2, r2⟩ := trodAll_cons r1
  obtain ⟨rfl, rfl, rfl⟩ := trodAll_nil r2
  obtain rfl : args = #[v0, v1, v2] := by cases args; simp_all
  obtain ⟨rfl, rfl⟩ := trodVars_none hV
  obtain ⟨a0, rfl, rfl, rfl, w0⟩ := open_int Try.underlying3 (hval 0 3 v0 rfl rfl) h0
  obtain ⟨a1, rfl, rfl, rfl, w1⟩ := open_int Try.underlying3 (hval 1 3 v1 rfl rfl) h1
  obtain ⟨a2, rfl, rfl, rfl, w2⟩ := open_int Try.underlying3 (hval 2 3 v2 rfl rfl) h2
  clear hA0 hval0 hsz0
  refine (calls_of_sim (needs_law _ _ _ _ (int_wf w1).1 (by have := (int_wf w1).2; omega)) (relL_cons (rel_v _ _ _) (relL_cons (rel_v _ _ _) (relL_cons (rel_v _ _ _) (relL_nil _ _))))).mono fun e W' ⟨he, bel⟩ => ?_
  subst he
  exact ⟨_, rfl, _, _, _, [], _, [], hW', trodAll_mk1 (shut_bool Try.underlying4 _), (trodAll_cons_mk (shut_int Try.underlying3 w0) (trodAll_cons_mk (shut_int Try.underlying3 w1) (trodAll_cons_mk (shut_int Try.underlying3 w2) trodAll_mk0))), rfl, bel.frame _, fun h => by cases h⟩
set_option maxRecDepth 100000
theorem rec1 : Try.prog.recurses 18 = true := fact_recurses 18 90 (by kernel_rfl) (by kernel_rfl) (by kernel_rfl)
theorem q0 : (Rows.evalNeedsRow.wf (OpenSpec.ofChange Rows.evalNeedsSpec)) = true := by kernel_rfl
theorem q3 : (Try.f18.params.all (Try.prog.readableRec ·)) = true := by kernel_rfl
theorem q4 : (namedTie Try.prog Rows.evalNeedsRow.named Rows.evalNeedsSpec.vars) = true := by kernel_rfl
theorem q5 : (Rows.evalNeedsRow.stops == []) = true := by kernel_rfl
theorem q7 : (Rows.evalNeedsRow.knobs == []) = true := by kernel_rfl
theorem q9 : (Rows.evalNeedsRow.inPlace == Try.prog.inPlace 18) = true := by kernel_rfl
theorem q10 : (Rows.evalNeedsRow.unfollowed == Try.prog.unfollowed 18) = true := by kernel_rfl
theorem q11 : (Rows.evalNeedsRow.recurses == Try.prog.recurses 18) = true := by rw [rec1]; kernel_rfl
theorem q12 : (Rows.evalNeedsRow.named == Try.prog.varsNamed 18) = true := by kernel_rfl
theorem q13 : (Rows.evalNeedsRow.maps == (Try.f18.params.toList ++ Rows.evalNeedsSpec.plain.varTypes Try.prog).any (Try.prog.mapsRec ·)) = true := by kernel_rfl
theorem q14 : (Rows.evalNeedsRow.ifaces == (Try.f18.params.toList ++ Rows.evalNeedsSpec.plain.varTypes Try.prog).any (Try.prog.ifacesRec ·)) = true := by kernel_rfl
theorem q15 : (Rows.evalNeedsRow.mapsOut == Try.prog.mapsAmong Try.f18.resultTypes.toList) = true := by kernel_rfl
theorem q16 : (Rows.evalNeedsRow.loops == (Try.f18.params.toList ++ Rows.evalNeedsSpec.plain.varTypes Try.prog).any (Try.prog.loopsFrom ·)) = true := by kernel_rfl
theorem q17 : (Rows.evalNeedsRow.wideKeys == (Try.f18.params.toList ++ Rows.evalNeedsSpec.plain.varTypes Try.prog ++ Try.f18.resultTypes.toList).any (Try.prog.wideKeysFrom ·)) = true := by kernel_rfl
theorem q18 : (Rows.evalNeedsSpec.vars.all (Try.prog.varReadable ·)) = true := by kernel_rfl
theorem q19 : (Try.f18.resultTypes.all (fun t => Try.prog.readableRec t && decide (t < Try.prog.types.size))) = true := by kernel_rfl
theorem q20 : (Rows.evalNeedsRow.ifacesOut == Try.f18.resultTypes.toList.any (Try.prog.ifacesRec ·)) = true := by kernel_rfl
theorem q21 : (Rows.evalNeedsRow.loopsOut == Try.f18.resultTypes.toList.any (Try.prog.loopsFrom ·)) = true := by kernel_rfl
theorem q23 : (Rows.evalNeedsRow.shortTexts.isNone) = true := by kernel_rfl
theorem q28 : (Rows.evalNeedsRow.kinds == (if Rows.evalNeedsRow.domain.isEmpty then [] else Try.f18.params.toList.map fun t => match Try.prog.underlying t with | some (.int k) => some k | _ => none)) = true := by kernel_rfl
theorem q29 : (Rows.evalNeedsRow.pinned == Rows.evalNeedsRow.pinnedBy) = true := by kernel_rfl
theorem q30 : (Rows.evalNeedsRow.veiled == (Try.f18.params.toList ++ Rows.evalNeedsSpec.plain.varTypes Try.prog ++ Try.f18.resultTypes.toList).any (Try.prog.veiledRec ·)) = true := by kernel_rfl
theorem q31 : (Rows.evalNeedsRow.veiledFits Try.prog Try.f18.params.toList (Try.f18.params.toList ++ Rows.evalNeedsSpec.plain.varTypes Try.prog ++ Try.f18.resultTypes.toList)) = true := by kernel_rfl
theorem joined : joinedFacts Try.prog 18 Try.f18 Rows.evalNeedsSpec Rows.evalNeedsRow = true := (and2 (and2 (and2 (and2 (and2 (and2 (and2 (and2 (and2 (and2 (and2 (and2 (and2 (and2 (and2 (and2 (and2 (and2 (and2 (and2 (and2 (and2 (and2 (and2 (and2 (and2 (and2 (and2 (and2 (and2 (and2 q0 fact_laid) fact_maps) q3) q4) q5) fact_stops) q7) fact_knobs) q9) q10) q11) q12) q13) q14) q15) q16) q17) q18) q19) q20) q21) fact_keys) q23) fact_heard) fact_enter) fact_lifted) fact_make) q28) q29) q30) q31)
theorem over : Rows.evalNeedsRow.holds Try.pinned (OpenSpec.ofChange Rows.evalNeedsSpec) :=
  OpenClaim.holds_of_wide 18 Try.f18 rfl rfl rfl rfl rfl rfl rfl ⟨rfl, rfl, rfl, rfl, rfl⟩ rfl rfl rfl rfl rfl (by kernel_rfl) Try.func18 joined
    (of_decide_eq_true (by kernel_rfl)) (by unfold Func.isWrapper; first | (rw [if_pos (by decide +kernel)]; kernel_rfl) | (rw [if_neg (by decide +kernel)]; exact ⟨rfl, rfl⟩))
    (fun os started H enc _ => lifted os started H enc)
theorem proved : Rows.EvalNeedsSaid := over
#print axioms proved
end Go.Proofs.Ytphjldhdnmoolaa.evalNeeds
namespace Go.Proofs.Ytphjldhdnmoolaa
/-- The row, under a short name, for the claim. -/
theorem evalNeeds_holds : Rows.EvalNeedsSaid := evalNeeds.proved
end Go.Proofs.Ytphjldhdnmoolaa
