/- For every input CheckNames answers true: names' names don't matter. -/
import Derived.Test.YtphjldhdnmoolaaJCheckNames5
import Derived.Test.YtphjldhdnmoolaaRows
set_option linter.unusedVariables false
set_option linter.unusedSimpArgs false
/- For every input CheckNames answers true: names' names don't matter. -/
namespace Go.Proofs.Ytphjldhdnmoolaa.checkNames
open Go Go.ChangeShapes Go.WideShapes Go.ChangeAt Go.RowKit Go.Joins Go.Proofs.Ytphjldhdnmoolaa.A
set_option maxRecDepth 100000 in
theorem lifted (os : Os) (started : os.Started) (H : Type) (enc : TypeId × Value → H) :
    ReturnsInHanded {} Try.checked os 5 .any (Rows.checkNamesSpec.pre6 enc Try.prog Try.f5 Rows.checkNamesRow.domain false) (Rows.checkNamesSpec.post enc Try.prog Try.f5 false true false false) := by
  refine returnsInHanded_of_change_sized (C := Try.checked) own started (by kernel_rfl) Try.func5
    (ChangeSpec.witness6 (enc := enc) (C := Try.checked) false ⟨#[], #[.string ByteArray.empty], []⟩ 8 (by kernel_rfl) (by kernel_rfl) (by kernel_rfl) (by kernel_rfl)) ?_
  intro W base args ds gs before hval0 hW hcnd hsz0 _
  have hsz : (DataW.weightsEach Try.prog (Try.f5.params.toList ++ Rows.checkNamesSpec.plain.varTypes Try.prog) (ds ++ gs)).all (· ≤ reachBytes) = true := hsz0
  have hval : ∀ (j : Nat) t v, Try.f5.params[j]? = some t → args[j]? = some v → Value.okWide Try.prog W .any base t v := hval0
  have hW' := hW
  obtain ⟨p, q, hA0, hV, rfl, hfz, hnd⟩ := hW
  have hA : DataW.TrodAll enc Try.prog W 0 (fun _ => true) true Try.f5.params.toList args.toList ds p := hA0
  rw [Try.params5] at hA hval hsz
  obtain ⟨v0, vs0, d0, ds0, p0, q0, hargs, rfl, rfl, h0, r0⟩ := trodAll_cons hA
  obtain ⟨rfl, rfl, rfl⟩ := trodAll_nil r0
  obtain rfl : args = #[v0] := by cases args; simp_all
  obtain ⟨rfl, rfl⟩ := trodVars_none hV
  have k0 := h0
  obtain ⟨a0, rfl, rfl, rfl, w0⟩ := open_string Try.underlying9 (hval 0 9 v0 rfl rfl) h0
  clear hA0 hval0 hsz0
  refine (calls_of_sim (names_law _ _) (relL_cons (rel_v _ _ _) (relL_nil _ _))).mono fun e W' ⟨he, bel⟩ => ?_
  subst he
  exact ⟨_, rfl, _, _, _, [], _, [], hW', trodAll_mk1 (shut_bool Try.underlying4 _), (trodAll_cons_mk (Below.trod laidOut (by kernel_rfl) (of_decide_eq_true (by kernel_rfl)) k0 bel (places_lt k0)) trodAll_mk0), rfl, bel.frame _, fun h => by cases h⟩
set_option maxRecDepth 100000
theorem rec1 : Try.prog.recurses 5 = true := fact_recurses 5 90 (by kernel_rfl) (by kernel_rfl) (by kernel_rfl)
theorem q0 : (Rows.checkNamesRow.wf (OpenSpec.ofChange Rows.checkNamesSpec)) = true := by kernel_rfl
theorem q3 : (Try.f5.params.all (Try.prog.readableRec ·)) = true := by kernel_rfl
theorem q4 : (namedTie Try.prog Rows.checkNamesRow.named Rows.checkNamesSpec.vars) = true := by kernel_rfl
theorem q5 : (Rows.checkNamesRow.stops == []) = true := by kernel_rfl
theorem q7 : (Rows.checkNamesRow.knobs == []) = true := by kernel_rfl
theorem q9 : (Rows.checkNamesRow.inPlace == Try.prog.inPlace 5) = true := by kernel_rfl
theorem q10 : (Rows.checkNamesRow.unfollowed == Try.prog.unfollowed 5) = true := by kernel_rfl
theorem q11 : (Rows.checkNamesRow.recurses == Try.prog.recurses 5) = true := by rw [rec1]; kernel_rfl
theorem q12 : (Rows.checkNamesRow.named == Try.prog.varsNamed 5) = true := by kernel_rfl
theorem q13 : (Rows.checkNamesRow.maps == (Try.f5.params.toList ++ Rows.checkNamesSpec.plain.varTypes Try.prog).any (Try.prog.mapsRec ·)) = true := by kernel_rfl
theorem q14 : (Rows.checkNamesRow.ifaces == (Try.f5.params.toList ++ Rows.checkNamesSpec.plain.varTypes Try.prog).any (Try.prog.ifacesRec ·)) = true := by kernel_rfl
theorem q15 : (Rows.checkNamesRow.mapsOut == Try.prog.mapsAmong Try.f5.resultTypes.toList) = true := by kernel_rfl
theorem q16 : (Rows.checkNamesRow.loops == (Try.f5.params.toList ++ Rows.checkNamesSpec.plain.varTypes Try.prog).any (Try.prog.loopsFrom ·)) = true := by kernel_rfl
theorem q17 : (Rows.checkNamesRow.wideKeys == (Try.f5.params.toList ++ Rows.checkNamesSpec.plain.varTypes Try.prog ++ Try.f5.resultTypes.toList).any (Try.prog.wideKeysFrom ·)) = true := by kernel_rfl
theorem q18 : (Rows.checkNamesSpec.vars.all (Try.prog.varReadable ·)) = true := by kernel_rfl
theorem q19 : (Try.f5.resultTypes.all (fun t => Try.prog.readableRec t && decide (t < Try.prog.types.size))) = true := by kernel_rfl
theorem q20 : (Rows.checkNamesRow.ifacesOut == Try.f5.resultTypes.toList.any (Try.prog.ifacesRec ·)) = true := by kernel_rfl
theorem q21 : (Rows.checkNamesRow.loopsOut == Try.f5.resultTypes.toList.any (Try.prog.loopsFrom ·)) = true := by kernel_rfl
theorem q23 : (Rows.checkNamesRow.shortTexts.isNone) = true := by kernel_rfl
theorem q28 : (Rows.checkNamesRow.kinds == (if Rows.checkNamesRow.domain.isEmpty then [] else Try.f5.params.toList.map fun t => match Try.prog.underlying t with | some (.int k) => some k | _ => none)) = true := by kernel_rfl
theorem q29 : (Rows.checkNamesRow.pinned == Rows.checkNamesRow.pinnedBy) = true := by kernel_rfl
theorem q30 : (Rows.checkNamesRow.veiled == (Try.f5.params.toList ++ Rows.checkNamesSpec.plain.varTypes Try.prog ++ Try.f5.resultTypes.toList).any (Try.prog.veiledRec ·)) = true := by kernel_rfl
theorem q31 : (Rows.checkNamesRow.veiledFits Try.prog Try.f5.params.toList (Try.f5.params.toList ++ Rows.checkNamesSpec.plain.varTypes Try.prog ++ Try.f5.resultTypes.toList)) = true := by kernel_rfl
theorem joined : joinedFacts Try.prog 5 Try.f5 Rows.checkNamesSpec Rows.checkNamesRow = true := (and2 (and2 (and2 (and2 (and2 (and2 (and2 (and2 (and2 (and2 (and2 (and2 (and2 (and2 (and2 (and2 (and2 (and2 (and2 (and2 (and2 (and2 (and2 (and2 (and2 (and2 (and2 (and2 (and2 (and2 (and2 q0 fact_laid) fact_maps) q3) q4) q5) fact_stops) q7) fact_knobs) q9) q10) q11) q12) q13) q14) q15) q16) q17) q18) q19) q20) q21) fact_keys) q23) fact_heard) fact_enter) fact_lifted) fact_make) q28) q29) q30) q31)
theorem over : Rows.checkNamesRow.holds Try.pinned (OpenSpec.ofChange Rows.checkNamesSpec) :=
  OpenClaim.holds_of_wide 5 Try.f5 rfl rfl rfl rfl rfl rfl rfl ⟨rfl, rfl, rfl, rfl, rfl⟩ rfl rfl rfl rfl rfl (by kernel_rfl) Try.func5 joined
    (of_decide_eq_true (by kernel_rfl)) (by unfold Func.isWrapper; first | (rw [if_pos (by decide +kernel)]; kernel_rfl) | (rw [if_neg (by decide +kernel)]; exact ⟨rfl, rfl⟩))
    (fun os started H enc _ => lifted os started H enc)
theorem proved : Rows.CheckNamesSaid := over
#print axioms proved
end Go.Proofs.Ytphjldhdnmoolaa.checkNames
namespace Go.Proofs.Ytphjldhdnmoolaa
/-- The row, under a short name, for the claim. -/
theorem checkNames_holds : Rows.CheckNamesSaid := checkNames.proved
end Go.Proofs.Ytphjldhdnmoolaa
